/- Lean functions that answer as the Go functions do, and the proofs that they do; no conditions. Written by this session's own driver: a scratch copy of the kit's print with the session's additions (wip/xprint). -/
import Derived.Test.YtklnbfdoklcmfaaAx0
namespace Go.Proofs.Ytklnbfdoklcmfaa.A
open Go.RowKit Go.Proofs.YtklnbfdoklcmfaaW.PrintWords Go.Proofs.YtklnbfdoklcmfaaW.PrintLast Go.Proofs.YtklnbfdoklcmfaaW.PrintMore
attribute [local go_sem] max2_int min2_int max_two min_two max_three min_three max_four min_four   -- for this text's walks alone
set_option linter.unusedVariables false
set_option linter.unusedSimpArgs false

/-! ### fullerref02_Same: function 17 -/
def fullerref02_Same.l0 : Nat → List Int → List Int → Int → Option (Bool)
  | 0, _, _, _ => none
  | k + 1, x0, x1, x5 => if x5 < (x0.length : Int) then (if 0 ≤ x5 then (if x5 < (x1.length : Int) then (if (rd x0 x5) = (rd x1 x5) then (fullerref02_Same.l0 k x0 x1 (wrap64 (x5 + 1))) else (some false)) else (none)) else (none)) else (some true)
def fullerref02_Same.f (k : Nat) (l0 : List Int) (l1 : List Int) : Option (Bool) := if (l0.length : Int) = (l1.length : Int) then (fullerref02_Same.l0 k l0 l1 0) else (some false)
theorem fullerref02_Same.mono_l : ∀ k, (∀ y0 y1 y2, LeO (fullerref02_Same.l0 k y0 y1 y2) (fullerref02_Same.l0 (k + 1) y0 y1 y2))
  | 0 => fun _ _ _ r h => by simp [fullerref02_Same.l0] at h
  | k + 1 => by
    have ih0 := fullerref02_Same.mono_l k
    · intro y0 y1 y2
      unfold fullerref02_Same.l0
      repeat' first
      | (with_reducible exact ih0 _ _ _)
      | (with_reducible exact LeO.refl _)
      | (with_reducible exact LeO.none _)
      | (with_reducible refine LeO.ite ?_ ?_)
      | (with_reducible refine LeO.bind ?_ (fun _ => ?_))
      | exact ih0 _ _ _
      | exact LeO.none _
      | refine LeO.ite ?_ ?_
      | refine LeO.bind ?_ (fun _ => ?_)
theorem fullerref02_Same.mono : ∀ a0 a1 k, LeO (fullerref02_Same.f k a0 a1) (fullerref02_Same.f (k + 1) a0 a1) := by
  intro a0 a1 k
  have ih0 := fullerref02_Same.mono_l k
  unfold fullerref02_Same.f
  repeat' first
      | (with_reducible exact ih0 _ _ _)
      | (with_reducible exact LeO.refl _)
      | (with_reducible exact LeO.none _)
      | (with_reducible refine LeO.ite ?_ ?_)
      | (with_reducible refine LeO.bind ?_ (fun _ => ?_))
      | exact ih0 _ _ _
      | exact LeO.none _
      | refine LeO.ite ?_ ?_
      | refine LeO.bind ?_ (fun _ => ?_)
set_option maxHeartbeats 8000000 in
set_option maxRecDepth 100000 in
theorem fullerref02_Same.calls (k : Nat) (A0 : Option Addr) (c0 : Nat) (l0 : List Int) (A1 : Option Addr) (c1 : Nat) (l1 : List Int) (r : Bool) (w : World) (hr0 : Kd.C (Kd.int .i64) w A0 l0.length l0) (hc0 : l0.length ≤ c0) (hr1 : Kd.C (Kd.int .i64) w A1 l1.length l1) (hc1 : l1.length ≤ c1) (h : fullerref02_Same.f k l0 l1 = some r) :
    Calls Try.prog 17 #[.slice A0 l0.length c0, .slice A1 l1.length c1] w fun e w' => e = .returned (.bool r) ∧ Drawn0 w w' := by
  have HR0 := Aside0.mk hr0
  have HC0 := Aside0.mk hc0
  clear hr0 hc0
  have HR1 := Aside0.mk hr1
  have HC1 := Aside0.mk hc1
  clear hr1 hc1
  have H : (if (l0.length : Int) = (l1.length : Int) then (fullerref02_Same.l0 k l0 l1 0) else (some false)) = some r := h
  clear h
  by_cases c3 : (l0.length : Int) = (l1.length : Int)
  · rw [if_pos c3] at H
    have c3b0 : ((l0.length : Int) == (l1.length : Int)) = true := beq_iff_eq.mpr c3
    have c3b1 : ((l0.length : Int) != (l1.length : Int)) = false := bne_eq_false_iff_eq.mpr c3
    have c3b2 : (l0.length == l1.length) = true := by first | simpa using c3 | (simp at c3 ⊢; omega)
    clear c3
    have H' := Aside0.mk H
    clear H
    go_enter Try.func17, Try.ntmps17
    go_wp2
    repeat (go_quiet (fail); try go_wp2)
    go_loopg [5] k (fun kq v5 w' => ∃ (x5_1 : Int), v5 = .int .i64 x5_1 ∧ Aside0 (fullerref02_Same.l0 kq l0 l1 x5_1 = some r) ∧ Aside0 (kq ≤ k) ∧ Drawn0 w w')
    case atStart => exact ⟨(0), (by first | rfl | (simp; done) | (simp [*]; done)), H', ⟨Nat.le_refl _⟩, by repeat (first | exact Drawn0.refl _ | apply Drawn0.step)⟩
    case round =>
      clear H'
      try clear c1
      try clear p2
      try clear c3
      try clear c3b0
      try clear c3b1
      try clear c3b2
      obtain ⟨x5_1, rfl, HA, HK1, ⟨m1, rfl⟩⟩ := hrel
      cases gk with
      | zero => exact absurd HA.out (by simp [fullerref02_Same.l0])
      | succ k1 =>
        have H := HA.out
        clear HA
        simp only [fullerref02_Same.l0] at H
        by_cases c4 : x5_1 < (l0.length : Int)
        · rw [if_pos c4] at H
          have c4b0 : decide (x5_1 < (l0.length : Int)) = true := decide_eq_true c4
          clear c4
          by_cases c5 : 0 ≤ x5_1
          · rw [if_pos c5] at H
            have c5b0 : decide (0 ≤ x5_1) = true := decide_eq_true c5
            clear c5
            by_cases c6 : x5_1 < (l1.length : Int)
            · rw [if_pos c6] at H
              have c6b0 : decide (x5_1 < (l1.length : Int)) = true := decide_eq_true c6
              clear c6
              by_cases c7 : (rd l0 x5_1) = (rd l1 x5_1)
              · rw [if_pos c7] at H
                obtain ⟨c7b0, c7b1⟩ := eqT_ c7
                clear c7
                have H' := Aside0.mk H
                clear H
                have p113 : 0 ≤ (x5_1 : Int) := of_decide_eq_true (by first | (with_reducible assumption) | assumption)
                have q113 : x5_1 < (l0.length : Int) := of_decide_eq_true (by first | (with_reducible assumption) | assumption)
                obtain ⟨ad113, e113, hx113_0⟩ := Kd.at_int HR0.out x5_1 p113 q113
                cases e113
                replace p113 := eq_true p113
                replace q113 := eq_true q113
                have p114 : 0 ≤ (x5_1 : Int) := of_decide_eq_true (by first | (with_reducible assumption) | assumption)
                have q114 : x5_1 < (l1.length : Int) := of_decide_eq_true (by first | (with_reducible assumption) | assumption)
                obtain ⟨ad114, e114, hx114_0⟩ := Kd.at_int HR1.out x5_1 p114 q114
                cases e114
                replace p114 := eq_true p114
                replace q114 := eq_true q114
                go_wp2
                repeat (go_quiet (fail); try go_wp2)
                go_roundg k1
                case measure => have := HK1.out; omega
                case rel => exact ⟨(wrap64 (x5_1 + 1)), (by first | rfl | (simp; done) | (simp [*]; done)), H', ⟨by have := HK1.out; omega⟩, by repeat (first | exact Drawn0.refl _ | apply Drawn0.step)⟩
              · rw [if_neg c7] at H
                have c7b0 : ((rd l0 x5_1) == (rd l1 x5_1)) = false := beq_eq_false_iff_ne.mpr c7
                have c7b1 : ((rd l0 x5_1) != (rd l1 x5_1)) = true := bne_iff_ne.mpr c7
                obtain rfl := Option.some.inj H
                have p113 : 0 ≤ (x5_1 : Int) := of_decide_eq_true (by first | (with_reducible assumption) | assumption)
                have q113 : x5_1 < (l0.length : Int) := of_decide_eq_true (by first | (with_reducible assumption) | assumption)
                obtain ⟨ad113, e113, hx113_0⟩ := Kd.at_int HR0.out x5_1 p113 q113
                cases e113
                replace p113 := eq_true p113
                replace q113 := eq_true q113
                have p114 : 0 ≤ (x5_1 : Int) := of_decide_eq_true (by first | (with_reducible assumption) | assumption)
                have q114 : x5_1 < (l1.length : Int) := of_decide_eq_true (by first | (with_reducible assumption) | assumption)
                obtain ⟨ad114, e114, hx114_0⟩ := Kd.at_int HR1.out x5_1 p114 q114
                cases e114
                replace p114 := eq_true p114
                replace q114 := eq_true q114
                go_wp2
                repeat (go_quiet (fail); try go_wp2)
                go_ret
                exact ⟨by first | rfl | (simp; done) | (simp [*]; done), by repeat (first | exact Drawn0.refl _ | apply Drawn0.step)⟩
            · rw [if_neg c6] at H
              exact absurd H (by simp)
          · rw [if_neg c5] at H
            exact absurd H (by simp)
        · rw [if_neg c4] at H
          have c4b0 : decide (x5_1 < (l0.length : Int)) = false := decide_eq_false c4
          clear c4
          obtain rfl := Option.some.inj H
          go_wp2
          repeat (go_quiet (fail); try go_wp2)
          go_ret
          exact ⟨by first | rfl | (simp; done) | (simp [*]; done), by repeat (first | exact Drawn0.refl _ | apply Drawn0.step)⟩
  · rw [if_neg c3] at H
    have c3b0 : ((l0.length : Int) == (l1.length : Int)) = false := beq_eq_false_iff_ne.mpr c3
    have c3b1 : ((l0.length : Int) != (l1.length : Int)) = true := bne_iff_ne.mpr c3
    have c3b2 : (l0.length == l1.length) = false := by first | simpa using c3 | (simp at c3 ⊢; omega)
    obtain rfl := Option.some.inj H
    go_enter Try.func17, Try.ntmps17
    go_wp2
    repeat (go_quiet (fail); try go_wp2)
    go_ret
    exact ⟨by first | rfl | (simp; done) | (simp [*]; done), by repeat (first | exact Drawn0.refl _ | apply Drawn0.step)⟩

/-! ### cmp_isNaN_int: function 61 -/
def cmp_isNaN_int.f (a0 : Int) : Option (Bool) := some (a0 != a0)
set_option maxHeartbeats 8000000 in
set_option maxRecDepth 100000 in
theorem cmp_isNaN_int.calls (a0 : Int) (r : Bool) (w : World) (h : cmp_isNaN_int.f a0 = some r) :
    Calls Try.prog 61 #[.int .i64 a0] w fun e w' => e = .returned (.bool r) ∧ Drawn0 w w' := by
  have H : (some (a0 != a0)) = some r := h
  clear h
  obtain rfl := Option.some.inj H
  go_enter Try.func61, Try.ntmps61
  go_wp2
  go_ret
  exact ⟨by first | rfl | (simp; done) | (simp [*]; done), by repeat (first | exact Drawn0.refl _ | apply Drawn0.step)⟩

/-! ### cmp_Less_int: function 51 -/
def cmp_Less_int.f (a0 : Int) (a1 : Int) : Option (Bool) := (cmp_isNaN_int.f a0).bind fun t115 => (if t115 = true then ((cmp_isNaN_int.f a1).bind fun t116 => (if t116 = true then (some (decide (a0 < a1))) else (some true))) else (some (decide (a0 < a1))))
set_option maxHeartbeats 8000000 in
set_option maxRecDepth 100000 in
theorem cmp_Less_int.calls (a0 : Int) (a1 : Int) (r : Bool) (w : World) (h : cmp_Less_int.f a0 a1 = some r) :
    Calls Try.prog 51 #[.int .i64 a0, .int .i64 a1] w fun e w' => e = .returned (.bool r) ∧ Drawn0 w w' := by
  have H : ((cmp_isNaN_int.f a0).bind fun t115 => (if t115 = true then ((cmp_isNaN_int.f a1).bind fun t116 => (if t116 = true then (some (decide (a0 < a1))) else (some true))) else (some (decide (a0 < a1))))) = some r := h
  clear h
  replace H := Option.bind_eq_some_iff.mp H
  obtain ⟨t115, A30, H⟩ := H
  replace H : (if t115 = true then ((cmp_isNaN_int.f a1).bind fun t116 => (if t116 = true then (some (decide (a0 < a1))) else (some true))) else (some (decide (a0 < a1)))) = some r := H
  have A3 := Aside0.mk A30
  clear A30
  by_cases c4 : t115 = true
  · subst c4
    have H1 : ((cmp_isNaN_int.f a1).bind fun t116 => (if t116 = true then (some (decide (a0 < a1))) else (some true))) = some r := by rw [if_pos rfl] at H; exact H
    clear H
    have H := H1
    clear H1
    replace H := Option.bind_eq_some_iff.mp H
    obtain ⟨t116, A50, H⟩ := H
    replace H : (if t116 = true then (some (decide (a0 < a1))) else (some true)) = some r := H
    have A5 := Aside0.mk A50
    clear A50
    by_cases c6 : t116 = true
    · subst c6
      have H1 : (some (decide (a0 < a1))) = some r := by rw [if_pos rfl] at H; exact H
      clear H
      have H := H1
      clear H1
      obtain rfl := Option.some.inj H
      go_enter Try.func51, Try.ntmps51
      go_wp2_with (first | ((with_reducible refine gate_callee (f := 61) rfl ?_); refine goesL_ (some 6) rfl rfl Try.func61 (by kernel_rfl) rfl #[.int .i64 a0] rfl (by (try simp only [List.map_toArray, List.map_cons, List.map_nil]); first | done | rfl | (simp only [List.length_drop, List.length_take]; rfl)) ?_; (with_reducible refine (cmp_isNaN_int.calls a0 true _ A3.out).mono ?_); rintro e w' ⟨rfl, ⟨nd, rfl⟩⟩; refine ⟨_, rfl, ?_⟩) | (go_at_call 61; (with_reducible refine (cmp_isNaN_int.calls a1 true _ A5.out).mono ?_); rintro e w' ⟨rfl, ⟨nd, rfl⟩⟩))
      go_ret
      exact ⟨by first | rfl | (simp; done) | (simp [*]; done), by repeat (first | exact Drawn0.refl _ | apply Drawn0.step)⟩
    · replace c6 := Bool.eq_false_iff.mpr c6
      subst c6
      have H1 : (some true) = some r := by rw [if_neg (show ¬ (false = true) by decide)] at H; exact H
      clear H
      have H := H1
      clear H1
      obtain rfl := Option.some.inj H
      go_enter Try.func51, Try.ntmps51
      go_wp2_with (first | ((with_reducible refine gate_callee (f := 61) rfl ?_); refine goesL_ (some 6) rfl rfl Try.func61 (by kernel_rfl) rfl #[.int .i64 a0] rfl (by (try simp only [List.map_toArray, List.map_cons, List.map_nil]); first | done | rfl | (simp only [List.length_drop, List.length_take]; rfl)) ?_; (with_reducible refine (cmp_isNaN_int.calls a0 true _ A3.out).mono ?_); rintro e w' ⟨rfl, ⟨nd, rfl⟩⟩; refine ⟨_, rfl, ?_⟩) | (go_at_call 61; (with_reducible refine (cmp_isNaN_int.calls a1 false _ A5.out).mono ?_); rintro e w' ⟨rfl, ⟨nd, rfl⟩⟩))
      go_ret
      exact ⟨by first | rfl | (simp; done) | (simp [*]; done), by repeat (first | exact Drawn0.refl _ | apply Drawn0.step)⟩
  · replace c4 := Bool.eq_false_iff.mpr c4
    subst c4
    have H1 : (some (decide (a0 < a1))) = some r := by rw [if_neg (show ¬ (false = true) by decide)] at H; exact H
    clear H
    have H := H1
    clear H1
    obtain rfl := Option.some.inj H
    go_enter Try.func51, Try.ntmps51
    go_wp2_with (first | ((with_reducible refine gate_callee (f := 61) rfl ?_); refine goesL_ (some 6) rfl rfl Try.func61 (by kernel_rfl) rfl #[.int .i64 a0] rfl (by (try simp only [List.map_toArray, List.map_cons, List.map_nil]); first | done | rfl | (simp only [List.length_drop, List.length_take]; rfl)) ?_; (with_reducible refine (cmp_isNaN_int.calls a0 false _ A3.out).mono ?_); rintro e w' ⟨rfl, ⟨nd, rfl⟩⟩; refine ⟨_, rfl, ?_⟩))
    go_ret
    exact ⟨by first | rfl | (simp; done) | (simp [*]; done), by repeat (first | exact Drawn0.refl _ | apply Drawn0.step)⟩

def L45_0 : Array Bool := #[false, false, false, false, false, false, false, false, false, false, false, false, false, false, false]
def L45_1 : Array Bool := #[true, false, false, false, false, false, false, false, false, false, false, false, false, false, false]
def L45_2 : Array Bool := #[true, true, false, false, false, false, false, false, false, false, false, false, false, false, false]
def L45_3 : Array Bool := #[true, true, true, false, false, false, false, false, false, false, false, false, false, false, false]
def L45_4 : Array Bool := #[true, true, true, true, false, false, false, false, false, false, false, false, false, false, false]
def L45_5 : Array Bool := #[true, true, true, true, true, false, false, false, false, false, false, false, false, false, false]
def L45_6 : Array Bool := #[true, true, true, true, true, true, false, false, false, false, false, false, false, false, false]
def L45_7 : Array Bool := #[true, true, true, true, true, true, true, false, false, false, false, false, false, false, false]
def L45_8 : Array Bool := #[true, true, true, true, true, true, true, false, true, false, false, false, false, false, false]
def L45_9 : Array Bool := #[true, true, true, true, true, true, true, false, true, true, false, false, false, false, false]
def L45_10 : Array Bool := #[true, true, true, true, true, true, true, false, true, true, true, false, false, false, false]
def L45_11 : Array Bool := #[true, true, true, true, true, true, true, false, true, true, true, true, false, false, false]
def L45_12 : Array Bool := #[true, true, true, true, true, true, true, true, true, true, true, true, false, false, false]
def L45_13 : Array Bool := #[true, true, true, true, true, true, true, true, true, true, true, true, true, false, false]
def L45_14 : Array Bool := #[true, true, true, true, true, true, true, true, true, true, true, true, true, true, false]
def L45_15 : Array Bool := #[true, true, true, true, true, true, true, true, true, true, true, true, true, true, true]
def L45_16 : Array Bool := #[false, false, false, false, false, false, false, false, false, false, false, false, false, false, false, false, false, false]
def L45_17 : Array Bool := #[true, false, false, false, false, false, false, false, false, false, false, false, false, false, false, false, false, false]
def L45_18 : Array Bool := #[true, true, false, false, false, false, false, false, false, false, false, false, false, false, false, false, false, false]
def L45_19 : Array Bool := #[true, true, true, false, false, false, false, false, false, false, false, false, false, false, false, false, false, false]
def L45_20 : Array Bool := #[true, true, true, true, false, false, false, false, false, false, false, false, false, false, false, false, false, false]
def L45_21 : Array Bool := #[true, true, true, true, true, false, false, false, false, false, false, false, false, false, false, false, false, false]
def L45_22 : Array Bool := #[true, true, true, true, true, true, false, false, false, false, false, false, false, false, false, false, false, false]
def L45_23 : Array Bool := #[true, true, true, true, true, true, true, false, false, false, false, false, false, false, false, false, false, false]
def L45_24 : Array Bool := #[true, true, true, true, true, true, true, true, false, false, false, false, false, false, false, false, false, false]
def L45_25 : Array Bool := #[true, true, true, true, true, true, true, true, true, false, false, false, false, false, false, false, false, false]
def L45_26 : Array Bool := #[true, true, true, true, true, true, true, true, true, false, true, false, false, false, false, false, false, false]
def L45_27 : Array Bool := #[true, true, true, true, true, true, true, true, true, false, true, true, false, false, false, false, false, false]
def L45_28 : Array Bool := #[true, true, true, true, true, true, true, true, true, false, true, true, true, false, false, false, false, false]
def L45_29 : Array Bool := #[true, true, true, true, true, true, true, true, true, true, true, true, true, false, false, false, false, false]
def L45_30 : Array Bool := #[true, true, true, true, true, true, true, true, true, true, true, true, true, true, false, false, false, false]
def L45_31 : Array Bool := #[true, true, true, true, true, true, true, true, true, true, true, true, true, true, true, false, false, false]
def L45_32 : Array Bool := #[true, true, true, true, true, true, true, true, true, true, true, true, true, true, true, true, false, false]
def L45_33 : Array Bool := #[true, true, true, true, true, true, true, true, true, true, true, true, true, true, true, true, true, false]
def L45_34 : Array Bool := #[true, true, true, true, true, true, true, true, true, true, true, true, true, true, true, true, true, true]
/-! ### slices_insertionSortOrdered_int: function 45 -/
mutual
def slices_insertionSortOrdered_int.l0 : Nat → List Int → Int → Int → Int → Option (List Int)
 | 0, _, _, _, _ => none
 | k + 1, x0, x1, x2, x6 => if x6 < x2 then (slices_insertionSortOrdered_int.l1 k x0 x1 x2 x6 x6) else (some x0)
def slices_insertionSortOrdered_int.l1 : Nat → List Int → Int → Int → Int → Int → Option (List Int)
 | 0, _, _, _, _, _ => none
 | k + 1, x0, x1, x2, x6, x7 => if x7 > x1 then (if 0 ≤ x7 then (if x7 < (x0.length : Int) then (if 0 ≤ (wrap64 (x7 - 1)) then (if (wrap64 (x7 - 1)) < (x0.length : Int) then ((cmp_Less_int.f (rd x0 x7) (rd x0 (wrap64 (x7 - 1)))).bind fun t119 => (if t119 = true then (slices_insertionSortOrdered_int.l1 k ((x0.set (x7 : Int).toNat (rd x0 (wrap64 (x7 - 1)))).set ((wrap64 (x7 - 1)) : Int).toNat (rd x0 x7)) x1 x2 x6 (wrap64 (x7 - 1))) else (slices_insertionSortOrdered_int.l0 k x0 x1 x2 (wrap64 (x6 + 1))))) else (none)) else (none)) else (none)) else (none)) else (slices_insertionSortOrdered_int.l0 k x0 x1 x2 (wrap64 (x6 + 1)))
end
def slices_insertionSortOrdered_int.f (k : Nat) (l0 : List Int) (a1 : Int) (a2 : Int) : Option (List Int) := slices_insertionSortOrdered_int.l0 k l0 a1 a2 (wrap64 (a1 + 1))
theorem slices_insertionSortOrdered_int.mono_l : ∀ k, (∀ y0 y1 y2 y3, LeO (slices_insertionSortOrdered_int.l0 k y0 y1 y2 y3) (slices_insertionSortOrdered_int.l0 (k + 1) y0 y1 y2 y3)) ∧ (∀ y0 y1 y2 y3 y4, LeO (slices_insertionSortOrdered_int.l1 k y0 y1 y2 y3 y4) (slices_insertionSortOrdered_int.l1 (k + 1) y0 y1 y2 y3 y4))
 | 0 => ⟨fun _ _ _ _ r h => by simp [slices_insertionSortOrdered_int.l0] at h, fun _ _ _ _ _ r h => by simp [slices_insertionSortOrdered_int.l1] at h⟩
 | k + 1 => by
  obtain ⟨ih0, ih1⟩ := slices_insertionSortOrdered_int.mono_l k
  refine ⟨?_, ?_⟩
  ·intro y0 y1 y2 y3
   unfold slices_insertionSortOrdered_int.l0
   repeat' first
   | (with_reducible exact ih0 _ _ _ _)
   | (with_reducible exact ih1 _ _ _ _ _)
   | (with_reducible exact LeO.refl _)
   | (with_reducible exact LeO.none _)
   | (with_reducible refine LeO.ite ?_ ?_)
   | (with_reducible refine LeO.bind ?_ (fun _ => ?_))
   | exact ih0 _ _ _ _
   | exact ih1 _ _ _ _ _
   | exact LeO.none _
   | refine LeO.ite ?_ ?_
   | refine LeO.bind ?_ (fun _ => ?_)
  ·intro y0 y1 y2 y3 y4
   unfold slices_insertionSortOrdered_int.l1
   repeat' first
   | (with_reducible exact ih0 _ _ _ _)
   | (with_reducible exact ih1 _ _ _ _ _)
   | (with_reducible exact LeO.refl _)
   | (with_reducible exact LeO.none _)
   | (with_reducible refine LeO.ite ?_ ?_)
   | (with_reducible refine LeO.bind ?_ (fun _ => ?_))
   | exact ih0 _ _ _ _
   | exact ih1 _ _ _ _ _
   | exact LeO.none _
   | refine LeO.ite ?_ ?_
   | refine LeO.bind ?_ (fun _ => ?_)
theorem slices_insertionSortOrdered_int.mono : ∀ a0 a1 a2 k, LeO (slices_insertionSortOrdered_int.f k a0 a1 a2) (slices_insertionSortOrdered_int.f (k + 1) a0 a1 a2) := by
 intro a0 a1 a2 k
 obtain ⟨ih0, ih1⟩ := slices_insertionSortOrdered_int.mono_l k
 unfold slices_insertionSortOrdered_int.f
 repeat' first
   | (with_reducible exact ih0 _ _ _ _)
   | (with_reducible exact ih1 _ _ _ _ _)
   | (with_reducible exact LeO.refl _)
   | (with_reducible exact LeO.none _)
   | (with_reducible refine LeO.ite ?_ ?_)
   | (with_reducible refine LeO.bind ?_ (fun _ => ?_))
   | exact ih0 _ _ _ _
   | exact ih1 _ _ _ _ _
   | exact LeO.none _
   | refine LeO.ite ?_ ?_
   | refine LeO.bind ?_ (fun _ => ?_)
def slices_insertionSortOrdered_int.T4 : Bool × List (List Nat × List Nat) := (true, [([], []), ([], []), ([0, 1], [0, 1]), ([2], [2]), ([3], [3]), ([3], [3]), ([4, 5, 3], [3, 4, 5]), ([6, 3], [3, 6]), ([3], [3]), ([3], [3]), ([9, 3], [3, 9]), ([8, 10, 3], [3, 8, 10]), ([11, 3], [3, 11]), ([7, 12, 3, 3], [3, 7, 12]), ([3, 13], [3, 13])])
def slices_insertionSortOrdered_int.B4 : List Nat := [0, 0, 3, 7, 15, 15, 63, 127, 15, 15, 527, 1807, 3855, 8191, 16383]
theorem slices_insertionSortOrdered_int.tab4 : rtab .any (opsOf Try.f45 4) = slices_insertionSortOrdered_int.T4 := by kernel_rfl
theorem slices_insertionSortOrdered_int.bits4 : waitsOk slices_insertionSortOrdered_int.T4.2 slices_insertionSortOrdered_int.B4 = true := by kernel_rfl
def slices_insertionSortOrdered_int.T6 : Bool × List (List Nat × List Nat) := (true, [([], []), ([], []), ([], []), ([], []), ([3], [3]), ([], []), ([], []), ([6], [6]), ([5, 7], [5, 7]), ([8], [8]), ([], []), ([], []), ([10, 11], [10, 11]), ([12], [12]), ([0, 1, 0, 1, 5, 6, 7, 8, 9, 13], [0, 1]), ([14, 9, 0, 1, 5, 6, 7, 8, 9, 13], [9, 14]), ([2, 4, 0, 1, 2, 3, 4, 5, 6, 7, 8, 9, 10, 11, 12, 13, 14, 15], [2, 4]), ([16, 13, 15, 0, 1, 2, 3, 4, 5, 6, 7, 8, 9, 10, 11, 12, 13, 14, 15], [13, 16])])
def slices_insertionSortOrdered_int.B6 : List Nat := [0, 0, 0, 0, 8, 0, 0, 64, 224, 480, 0, 0, 3072, 7168, 16355, 32739, 65535, 131071]
theorem slices_insertionSortOrdered_int.tab6 : rtab .any (opsOf Try.f45 6) = slices_insertionSortOrdered_int.T6 := by kernel_rfl
theorem slices_insertionSortOrdered_int.bits6 : waitsOk slices_insertionSortOrdered_int.T6.2 slices_insertionSortOrdered_int.B6 = true := by kernel_rfl
set_option maxHeartbeats 8000000 in
set_option maxRecDepth 100000 in
theorem slices_insertionSortOrdered_int.calls (k : Nat) (P0_ : Nat → Prop) (u9000_ : Value) (l0 : List Int) (a1 : Int) (a2 : Int) (r : List Int) (w0 w : World) (hB : Below w0.heap.size w0 w) (ho0 : Kd.R (Kd.int .i64) 3 w w0.heap.size P0_ u9000_ l0) (h : slices_insertionSortOrdered_int.f k l0 a1 a2 = some r) :
  Calls Try.prog 45 #[u9000_, .int .i64 a1, .int .i64 a2] w fun e w' => e = .returned (.tuple #[]) ∧ Kd.R (Kd.int .i64) 3 w' w0.heap.size (fun k_ => (P0_ k_ ∨ w.heap.size ≤ k_)) u9000_ r ∧ Below w0.heap.size w0 w' ∧ Kept w w' (fun k_ => P0_ k_) := by
 have HO0 := Aside0.mk (show Kd.R (Kd.int .i64) 3 w w0.heap.size (fun k_ => (P0_ k_ ∨ w.heap.size ≤ k_)) u9000_ l0 from Kd.R_mono ho0 (fun k_ hk => (.inl hk)))
 have HK := Aside0.mk (Kept.refl w (fun k_ => P0_ k_))
 have HW0 := Aside0.mk hB.size
 have HB := Aside0.mk hB
 clear hB
 have H : (slices_insertionSortOrdered_int.l0 k l0 a1 a2 (wrap64 (a1 + 1))) = some r := h
 clear h
 have H' := Aside0.mk H
 clear H
 go_enter Try.func45, Try.ntmps45
 go_wp2
 go_loopg [6] k (fun kq v6 w' => ∃ (x0_1 : List Int) (x6_1 : Int), v6 = .int .i64 x6_1 ∧ Aside0 (slices_insertionSortOrdered_int.l0 kq x0_1 a1 a2 x6_1 = some r) ∧ Aside0 (kq ≤ k) ∧ Aside0 (Kd.R (Kd.int .i64) 3 w' w0.heap.size (fun k_ => (P0_ k_ ∨ w.heap.size ≤ k_)) u9000_ x0_1) ∧ Aside0 (Kept w w' (fun k_ => P0_ k_)) ∧ Aside0 (Below w0.heap.size w0 w'))
 case atStart => exact ⟨(l0), (wrap64 (a1 + 1)), (by first | rfl | (simp; done) | (simp [*]; done)), H', ⟨Nat.le_refl _⟩, ⟨mvR_ HO0.out⟩, ⟨by repeat (first | (with_reducible first | exact HK.out | apply Kept.alloc | apply Kept.drewN | apply Kept.drew) | exact HK.out)⟩, ⟨bq0_ HB.out⟩⟩
 case round =>
  clear H'
  try clear p2
  obtain ⟨x0_1, x6_1, rfl, HA, HK1, HO_0, HK, HB⟩ := hrel
  cases gk with
  | zero => exact absurd HA.out (by simp [slices_insertionSortOrdered_int.l0])
  | succ k1 =>
   have H := HA.out
   clear HA
   simp only [slices_insertionSortOrdered_int.l0] at H
   by_cases c4 : x6_1 < a2
   ·rw [if_pos c4] at H
    have c4b0 : decide (x6_1 < a2) = true := decide_eq_true c4
    clear c4
    have H' := Aside0.mk H
    clear H
    go_wp2
    go_loopg [7] k1 (fun kq v7 w' => ∃ (x0_2 : List Int) (x7_2 : Int), v7 = .int .i64 x7_2 ∧ Aside0 (slices_insertionSortOrdered_int.l1 kq x0_2 a1 a2 x6_1 x7_2 = some r) ∧ Aside0 (kq ≤ k1) ∧ Aside0 (Kd.R (Kd.int .i64) 3 w' w0.heap.size (fun k_ => (P0_ k_ ∨ w.heap.size ≤ k_)) u9000_ x0_2) ∧ Aside0 (Kept w w' (fun k_ => P0_ k_)) ∧ Aside0 (Below w0.heap.size w0 w'))
    case atStart => exact ⟨(x0_1), (x6_1), (by first | rfl | (simp; done) | (simp [*]; done)), H', ⟨Nat.le_refl _⟩, ⟨mvR_ HO_0.out⟩, ⟨by repeat (first | (with_reducible first | exact HK.out | apply Kept.alloc | apply Kept.drewN | apply Kept.drew) | exact HK.out)⟩, ⟨bq0_ HB.out⟩⟩
    case round =>
     clear H'
     try clear p2
     try clear c4
     try clear c4b0
     try clear p2
     obtain ⟨x0_2, x7_2, rfl, HA, HK2, HO_0, HK, HB⟩ := hrel
     cases gk with
     | zero => exact absurd HA.out (by simp [slices_insertionSortOrdered_int.l1])
     | succ k2 =>
      have H := HA.out
      clear HA
      simp only [slices_insertionSortOrdered_int.l1] at H
      by_cases c5 : x7_2 > a1
      ·rw [if_pos c5] at H
       have c5b0 : decide (a1 < x7_2) = true := decide_eq_true c5
       clear c5
       by_cases c6 : 0 ≤ x7_2
       ·rw [if_pos c6] at H
        have c6b0 : decide (0 ≤ x7_2) = true := decide_eq_true c6
        clear c6
        by_cases c7 : x7_2 < (x0_2.length : Int)
        ·rw [if_pos c7] at H
         have c7b0 : decide (x7_2 < (x0_2.length : Int)) = true := decide_eq_true c7
         clear c7
         obtain ⟨ji8, hji8⟩ : ∃ j_ : Int, (wrap64 (x7_2 - 1)) = j_ := ⟨_, rfl⟩
         replace H : (if 0 ≤ (ji8) then (if (ji8) < (x0_2.length : Int) then ((cmp_Less_int.f (rd x0_2 x7_2) (rd x0_2 (ji8))).bind fun t119 => (if t119 = true then (slices_insertionSortOrdered_int.l1 k2 ((x0_2.set (x7_2 : Int).toNat (rd x0_2 (ji8))).set ((ji8) : Int).toNat (rd x0_2 x7_2)) a1 a2 x6_1 ji8) else (slices_insertionSortOrdered_int.l0 k2 x0_2 a1 a2 (wrap64 (x6_1 + 1))))) else (none)) else (none)) = some r := by first | (rw [hji8] at H; exact H) | (simp only [hji8] at H ⊢; exact H)
         have hji8w : (IntKind.i64.wrap (x7_2 - 1)) = ji8 := (i64_w _).trans hji8
         by_cases c9 : 0 ≤ (ji8)
         ·rw [if_pos c9] at H
          have c9b0 : decide (0 ≤ (ji8)) = true := decide_eq_true c9
          clear c9
          by_cases c10 : (ji8) < (x0_2.length : Int)
          ·rw [if_pos c10] at H
           have c10b0 : decide ((ji8) < (x0_2.length : Int)) = true := decide_eq_true c10
           clear c10
           replace H := Option.bind_eq_some_iff.mp H
           obtain ⟨t119, A110, H⟩ := H
           replace H : (if t119 = true then (slices_insertionSortOrdered_int.l1 k2 ((x0_2.set (x7_2 : Int).toNat (rd x0_2 (ji8))).set ((ji8) : Int).toNat (rd x0_2 x7_2)) a1 a2 x6_1 ji8) else (slices_insertionSortOrdered_int.l0 k2 x0_2 a1 a2 (wrap64 (x6_1 + 1)))) = some r := H
           have A11 := Aside0.mk A110
           clear A110
           by_cases c12 : t119 = true
           ·subst c12
            have H1 : (slices_insertionSortOrdered_int.l1 k2 ((x0_2.set (x7_2 : Int).toNat (rd x0_2 (ji8))).set ((ji8) : Int).toNat (rd x0_2 x7_2)) a1 a2 x6_1 ji8) = some r := by rw [if_pos rfl] at H; exact H
            clear H
            have H := H1
            clear H1
            obtain ⟨y122, hy122⟩ : ∃ y_ : List Int, y_ = (x0_2.set (x7_2 : Int).toNat (rd x0_2 (ji8))) := ⟨_, rfl⟩
            replace H : (slices_insertionSortOrdered_int.l1 k2 (y122.set ((ji8) : Int).toNat (rd x0_2 x7_2)) a1 a2 x6_1 ji8) = some r := by first | (rw [hy122]; with_reducible exact H) | (have H2_ := (Option.bind_some _ _).symm.trans H; rw [hy122]; with_reducible exact H2_) | (have H2_ := (Option.bind_some _ _).symm.trans H; with_reducible exact H2_) | with_reducible exact H | (rw [hy122]; exact H) | exact H
            have Ny122 := Aside0.mk hy122
            clear hy122
            obtain ⟨y123, hy123⟩ : ∃ y_ : List Int, y_ = (y122.set ((ji8) : Int).toNat (rd x0_2 x7_2)) := ⟨_, rfl⟩
            replace H : (slices_insertionSortOrdered_int.l1 k2 y123 a1 a2 x6_1 ji8) = some r := by first | (rw [hy123]; with_reducible exact H) | (have H2_ := (Option.bind_some _ _).symm.trans H; rw [hy123]; with_reducible exact H2_) | (have H2_ := (Option.bind_some _ _).symm.trans H; with_reducible exact H2_) | with_reducible exact H | (rw [hy123]; exact H) | exact H
            have Ny123 := Aside0.mk hy123
            clear hy123
            have H' := Aside0.mk H
            clear H
            try go_wp2
            replace HO_0 := Aside0.mk (Kd.R_drew HO_0.out)
            replace HK := Aside0.mk (Kept.drew HK.out)
            replace HB := Aside0.mk (below_drew1 HB.out)
            obtain ⟨Ao16, co16, eo16⟩ := Kd.R_slice HO_0.out
            (first | subst eo16 | (injection eo16 with f1_ f2_ f3_; have f4_ := f1_.symm; have f5_ := f3_.symm; clear f1_ f2_ f3_; subst f4_; subst f5_))
            have p117 : 0 ≤ (x7_2 : Int) := od_
            have q117 : x7_2 < (x0_2.length : Int) := od_
            obtain ⟨ad117, e117, hx117_0⟩ := Kd.at_int (Kd.R_reads' HO_0.out).2.2 x7_2 p117 q117
            cases e117
            replace p117 := eq_true p117
            replace q117 := eq_true q117
            have p118 : 0 ≤ ((ji8) : Int) := od_
            have q118 : (ji8) < (x0_2.length : Int) := od_
            obtain ⟨ad118, e118, hx118_0⟩ := Kd.at_int (Kd.R_reads' HO_0.out).2.2 (ji8) p118 q118
            obtain rfl : ad117 = ad118 := (by injection e118)
            replace p118 := eq_true p118
            replace q118 := eq_true q118
            refine start_ (n := 15) (S := fun w' => w'.cell? (ad117.add (x7_2).toNat) = some (.int .i64 (rd x0_2 x7_2)) ∧ w'.cell? (ad117.add ((ji8)).toNat) = some (.int .i64 (rd x0_2 (ji8)))) (ds := []) L45_0 (by kernel_rfl) rfl rfl ⟨hx117_0, hx118_0⟩ (fun hHeld => ?_); refine with_tabW slices_insertionSortOrdered_int.tab4 slices_insertionSortOrdered_int.bits4 (fun HT_ HW_ => ?_)
            generalize wr.drew = w15 at HO_0 HK HB hx117_0 hx118_0 hHeld ⊢
            refine pu_ 0 (some 16) L45_1 HT_ ?_
            refine pu_ 1 (some 17) L45_2 HT_ ?_
            refine pu_ 2 (some 18) L45_3 HT_ ?_
            refine pu_ 3 (some 19) L45_4 HT_ ?_
            refine pu_ 4 (some 20) L45_5 HT_ ?_
            refine pu_ 5 (some 21) L45_6 HT_ ?_
            refine pu_ 6 (some 22) L45_7 HT_ ?_
            refine pu_ 8 (some 24) L45_8 HT_ ?_
            refine pu_ 9 (some 25) L45_9 HT_ ?_
            refine pu_ 10 (some 26) L45_10 HT_ ?_
            refine pu_ 11 (some 27) L45_11 HT_ ?_
            refine ta_ 7 (some 23) L45_12 HT_ HW_ hHeld ?_ (hy := by rintro w' ⟨s0, s1⟩; go_simp; with_reducible rfl)
            refine ta_ 12 (some 28) L45_13 HT_ HW_ hHeld ?_ (hy := by rintro w' ⟨s0, s1⟩; go_simp; with_reducible rfl)
            refine one_ (i := 13) (N := some 29) L45_14 rfl rfl (one_of HT_.out (by kernel_rfl)) (by decide) (fun K hK => ?_)
            refine goes_ Try.func51 (by kernel_rfl) rfl #[.int .i64 (rd x0_2 x7_2), .int .i64 (rd x0_2 (ji8))] (by rfl) rfl rfl (by (try simp only [List.map_toArray, List.map_cons, List.map_nil]); first | done | (simp only [hji8]; rfl) | rfl | (simp only [List.length_drop, List.length_take]; rfl)) ?_
            with_reducible refine (cmp_Less_int.calls (rd x0_2 x7_2) (rd x0_2 (ji8)) true _ A11.out).mono ?_
            rintro e w' ⟨rfl, ⟨nd, rfl⟩⟩
            refine ⟨_, rfl, ?_⟩
            refine hK.out _ _ ⟨hHeld.1, hHeld.2⟩ (fun hHeld => ?_)
            clear hK K
            refine norm_ (a' := ?_) ?_ ?_
            rotate_left
            ·show Act.put _ (some 29) _ = _
             simp only [Act.put, sA_, sB_, sC_, i64_w, i32_w]
             rfl
            refine pu_ 14 (some 30) L45_15 HT_ ?_
            refine done_ (done_of HT_.out (by kernel_rfl)) ?_
            try go_wp2
            (try (rw [drewN_self w15]; generalize hq_ : World.drewN w15 _ = w15; have n0_ : Aside0 (Kd.R (Kd.int .i64) 3 w15 w0.heap.size (fun k_ => (P0_ k_ ∨ w.heap.size ≤ k_)) (.slice (some ad117) x0_2.length co16) x0_2) := ⟨by rw [← hq_]; exact (mvR_ HO_0.out)⟩; have n1_ : Aside0 (Kept w w15 (fun k_ => P0_ k_)) := ⟨by rw [← hq_]; exact (by repeat (first | (with_reducible first | exact HK.out | apply Kept.alloc | apply Kept.drewN | apply Kept.drew) | exact HK.out))⟩; have n2_ : Aside0 (Below w0.heap.size w0 w15) := ⟨by rw [← hq_]; exact (bq0_ HB.out)⟩; clear HO_0 HK HB hq_; have HO_0 := n0_; have HK := n1_; have HB := n2_; clear n0_ n1_ n2_))
            replace HO_0 := Aside0.mk (Kd.R_drew HO_0.out)
            replace HK := Aside0.mk (Kept.drew HK.out)
            replace HB := Aside0.mk (below_drew1 HB.out)
            have p120 : 0 ≤ ((ji8) : Int) := od_
            have q120 : (ji8) < (x0_2.length : Int) := od_
            obtain ⟨ad120, e120, hx120_0⟩ := Kd.at_int (Kd.R_reads' HO_0.out).2.2 (ji8) p120 q120
            obtain rfl : ad117 = ad120 := (by injection e120)
            replace p120 := eq_true p120
            replace q120 := eq_true q120
            have p121 : 0 ≤ (x7_2 : Int) := od_
            have q121 : x7_2 < (x0_2.length : Int) := od_
            obtain ⟨ad121, e121, hx121_0⟩ := Kd.at_int (Kd.R_reads' HO_0.out).2.2 x7_2 p121 q121
            obtain rfl : ad117 = ad121 := (by injection e121)
            replace p121 := eq_true p121
            replace q121 := eq_true q121
            have p13 : 0 ≤ (x7_2 : Int) := od_
            have q13 : (x7_2 : Int) < ((x0_2.length : Int) : Int) := od_
            obtain ⟨go13, co13, eo13, gb13, gl13, cl13, HG13⟩ := Kd.R_form HO_0.out (by omega)
            (first | cases eo13 | (injection eo13 with ea_ en_ ec_; (first | subst ea_ | (injection ea_ with ea_; subst ea_)); subst ec_; clear en_))
            have GB13 := Aside0.mk gb13
            have GG13 := Aside0.mk HG13
            clear gb13 gl13 HG13
            have HMgo13 := Aside0.mk (show (P0_ go13 ∨ w.heap.size ≤ go13) from (HO_0.out.1 _ rfl))
            (first | simp only [add_plain] at hx117_0 | skip)
            (first | simp only [add_plain] at hx118_0 | skip)
            (first | simp only [add_plain] at hx120_0 | skip)
            (first | simp only [add_plain] at hx121_0 | skip)
            obtain ⟨hx13_0, hf13_0⟩ := Kd.R_celln 0 HO_0.out (x7_2 : Int) p13 q13
            replace p13 := eq_true p13
            replace q13 := eq_true q13
            have HP18 := Kd.R_putn HO_0.out (x7_2 : Int) (rd x0_2 (ji8))
            rw [← Ny122.out] at HP18
            have HQ18 := Aside0.mk HP18
            clear HP18
            have p14 : 0 ≤ ((ji8) : Int) := od_
            have q14 : ((ji8) : Int) < ((x0_2.length : Int) : Int) := od_
            obtain ⟨hx14_0, hf14_0⟩ := Kd.R_celln 0 HQ18.out ((ji8) : Int) p14 q14
            replace p14 := eq_true p14
            replace q14 := eq_true q14
            have HP19 := Kd.R_putn HQ18.out ((ji8) : Int) (rd x0_2 x7_2)
            rw [← Ny123.out] at HP19
            have HQ19 := Aside0.mk HP19
            clear HP19
            refine start_ (n := 18) (S := fun w' => w'.cell? ⟨go13, ((ji8)).toNat, none⟩ = some (.int .i64 (rd x0_2 (ji8))) ∧ w'.cell? ⟨go13, (x7_2).toNat, none⟩ = some (.int .i64 (rd x0_2 x7_2))) (ds := [15, 17]) L45_16 (by kernel_rfl) rfl rfl ⟨hx120_0, hx121_0⟩ (fun hHeld => ?_); refine with_tabW slices_insertionSortOrdered_int.tab6 slices_insertionSortOrdered_int.bits6 (fun HT_ HW_ => ?_)
            generalize w15.drew = w17 at HO_0 HK HB GG13 HQ18 HQ19 hf13_0 hf14_0 hx117_0 hx118_0 hx120_0 hx121_0 hx13_0 hx14_0 hHeld ⊢
            refine pu_ 0 (some 33) L45_17 HT_ ?_
            refine pu_ 1 (some 34) L45_18 HT_ ?_
            refine pu_ 2 (some 35) L45_19 HT_ ?_
            refine pu_ 3 (some 36) L45_20 HT_ ?_
            refine pu_ 4 (some 37) L45_21 HT_ ?_
            refine pu_ 5 (some 38) L45_22 HT_ ?_
            refine pu_ 6 (some 39) L45_23 HT_ ?_
            refine pu_ 7 (some 40) L45_24 HT_ ?_
            refine pu_ 8 (some 41) L45_25 HT_ ?_
            refine pu_ 10 (some 43) L45_26 HT_ ?_
            refine pu_ 11 (some 44) L45_27 HT_ ?_
            refine pu_ 12 (some 45) L45_28 HT_ ?_
            refine ta_ 9 (some 42) L45_29 HT_ HW_ hHeld ?_ (hy := by rintro w' ⟨s0, s1⟩; go_simp; with_reducible rfl)
            refine ta_ 13 (some 46) L45_30 HT_ HW_ hHeld ?_ (hy := by rintro w' ⟨s0, s1⟩; go_simp; with_reducible rfl)
            refine pu_ 14 (some 47) L45_31 HT_ ?_
            refine last_ (i := 15) (N := none) L45_32 rfl rfl (one_of HT_.out (by kernel_rfl)) (by decide) (fun K hK => ?_)
            refine skip_ (w1 := ?_) (by rfl) rfl ?_ ?_
            rotate_left
            ·go_simp
             rfl
            refine hK.out _ _ ?_
            clear hK K
            refine pu_ 16 (some 48) L45_33 HT_ ?_
            refine last_ (i := 17) (N := none) L45_34 rfl rfl (one_of HT_.out (by kernel_rfl)) (by decide) (fun K hK => ?_)
            refine skip_ (w1 := ?_) (by rfl) rfl ?_ ?_
            rotate_left
            ·go_simp
             rfl
            refine hK.out _ _ ?_
            clear hK K
            refine done_ (done_of HT_.out (by kernel_rfl)) ?_
            try go_wp2
            go_roundg k2
            case measure => have := HK1.out; have := HK2.out; omega
            case rel => exact ⟨(y123), (ji8), (by first | rfl | (simp; done) | (simp only [← hji8] <;> (first | rfl | simp)) | (simp [*]; done)), H', ⟨by have := HK1.out; have := HK2.out; omega⟩, ⟨mvR_ HQ19.out⟩, ⟨by repeat (first | (with_reducible first | exact HK.out | apply Kept.alloc | apply Kept.drewN | apply Kept.drew | refine Kept.setCell ?_ HMgo13.out _ | refine Kept.setCell ?_ HMgo13.out _) | exact HK.out)⟩, ⟨bq2_ HB.out GB13.out GB13.out⟩⟩
           ·replace c12 := Bool.eq_false_iff.mpr c12
            subst c12
            have H1 : (slices_insertionSortOrdered_int.l0 k2 x0_2 a1 a2 (wrap64 (x6_1 + 1))) = some r := by rw [if_neg (show ¬ (false = true) by decide)] at H; exact H
            clear H
            have H := H1
            clear H1
            have H' := Aside0.mk H
            clear H
            try go_wp2
            replace HO_0 := Aside0.mk (Kd.R_drew HO_0.out)
            replace HK := Aside0.mk (Kept.drew HK.out)
            replace HB := Aside0.mk (below_drew1 HB.out)
            obtain ⟨Ao21, co21, eo21⟩ := Kd.R_slice HO_0.out
            (first | subst eo21 | (injection eo21 with f1_ f2_ f3_; have f4_ := f1_.symm; have f5_ := f3_.symm; clear f1_ f2_ f3_; subst f4_; subst f5_))
            have p117 : 0 ≤ (x7_2 : Int) := od_
            have q117 : x7_2 < (x0_2.length : Int) := od_
            obtain ⟨ad117, e117, hx117_0⟩ := Kd.at_int (Kd.R_reads' HO_0.out).2.2 x7_2 p117 q117
            cases e117
            replace p117 := eq_true p117
            replace q117 := eq_true q117
            have p118 : 0 ≤ ((ji8) : Int) := od_
            have q118 : (ji8) < (x0_2.length : Int) := od_
            obtain ⟨ad118, e118, hx118_0⟩ := Kd.at_int (Kd.R_reads' HO_0.out).2.2 (ji8) p118 q118
            obtain rfl : ad117 = ad118 := (by injection e118)
            replace p118 := eq_true p118
            replace q118 := eq_true q118
            refine start_ (n := 15) (S := fun w' => w'.cell? (ad117.add (x7_2).toNat) = some (.int .i64 (rd x0_2 x7_2)) ∧ w'.cell? (ad117.add ((ji8)).toNat) = some (.int .i64 (rd x0_2 (ji8)))) (ds := []) L45_0 (by kernel_rfl) rfl rfl ⟨hx117_0, hx118_0⟩ (fun hHeld => ?_); refine with_tabW slices_insertionSortOrdered_int.tab4 slices_insertionSortOrdered_int.bits4 (fun HT_ HW_ => ?_)
            generalize wr.drew = w20 at HO_0 HK HB hx117_0 hx118_0 hHeld ⊢
            refine pu_ 0 (some 16) L45_1 HT_ ?_
            refine pu_ 1 (some 17) L45_2 HT_ ?_
            refine pu_ 2 (some 18) L45_3 HT_ ?_
            refine pu_ 3 (some 19) L45_4 HT_ ?_
            refine pu_ 4 (some 20) L45_5 HT_ ?_
            refine pu_ 5 (some 21) L45_6 HT_ ?_
            refine pu_ 6 (some 22) L45_7 HT_ ?_
            refine pu_ 8 (some 24) L45_8 HT_ ?_
            refine pu_ 9 (some 25) L45_9 HT_ ?_
            refine pu_ 10 (some 26) L45_10 HT_ ?_
            refine pu_ 11 (some 27) L45_11 HT_ ?_
            refine ta_ 7 (some 23) L45_12 HT_ HW_ hHeld ?_ (hy := by rintro w' ⟨s0, s1⟩; go_simp; with_reducible rfl)
            refine ta_ 12 (some 28) L45_13 HT_ HW_ hHeld ?_ (hy := by rintro w' ⟨s0, s1⟩; go_simp; with_reducible rfl)
            refine one_ (i := 13) (N := some 29) L45_14 rfl rfl (one_of HT_.out (by kernel_rfl)) (by decide) (fun K hK => ?_)
            refine goes_ Try.func51 (by kernel_rfl) rfl #[.int .i64 (rd x0_2 x7_2), .int .i64 (rd x0_2 (ji8))] (by rfl) rfl rfl (by (try simp only [List.map_toArray, List.map_cons, List.map_nil]); first | done | (simp only [hji8]; rfl) | rfl | (simp only [List.length_drop, List.length_take]; rfl)) ?_
            with_reducible refine (cmp_Less_int.calls (rd x0_2 x7_2) (rd x0_2 (ji8)) false _ A11.out).mono ?_
            rintro e w' ⟨rfl, ⟨nd, rfl⟩⟩
            refine ⟨_, rfl, ?_⟩
            refine hK.out _ _ ⟨hHeld.1, hHeld.2⟩ (fun hHeld => ?_)
            clear hK K
            refine norm_ (a' := ?_) ?_ ?_
            rotate_left
            ·show Act.put _ (some 29) _ = _
             simp only [Act.put, sA_, sB_, sC_, i64_w, i32_w]
             rfl
            refine pu_ 14 (some 30) L45_15 HT_ ?_
            refine done_ (done_of HT_.out (by kernel_rfl)) ?_
            try go_wp2
            go_roundg k2
            case measure => have := HK1.out; have := HK2.out; omega
            case rel => exact ⟨(x0_2), (wrap64 (x6_1 + 1)), (by first | rfl | (simp; done) | (simp [*]; done)), H', ⟨by have := HK1.out; have := HK2.out; omega⟩, ⟨mvR_ HO_0.out⟩, ⟨by repeat (first | (with_reducible first | exact HK.out | apply Kept.alloc | apply Kept.drewN | apply Kept.drew) | exact HK.out)⟩, ⟨bq0_ HB.out⟩⟩
          ·rw [if_neg c10] at H
           exact absurd H (by simp)
         ·rw [if_neg c9] at H
          exact absurd H (by simp)
        ·rw [if_neg c7] at H
         exact absurd H (by simp)
       ·rw [if_neg c6] at H
        exact absurd H (by simp)
      ·rw [if_neg c5] at H
       have c5b0 : decide (a1 < x7_2) = false := decide_eq_false c5
       clear c5
       have H' := Aside0.mk H
       clear H
       try go_wp2
       replace HO_0 := Aside0.mk (Kd.R_drew HO_0.out)
       replace HK := Aside0.mk (Kept.drew HK.out)
       replace HB := Aside0.mk (below_drew1 HB.out)
       refine start_ (n := 15) (S := fun w' => True) (ds := []) L45_0 (by kernel_rfl) rfl rfl trivial (fun hHeld => ?_); refine with_tabW slices_insertionSortOrdered_int.tab4 slices_insertionSortOrdered_int.bits4 (fun HT_ HW_ => ?_)
       generalize wr.drew = w22 at HO_0 HK HB hHeld ⊢
       refine pu_ 0 (some 16) L45_1 HT_ ?_
       refine pu_ 1 (some 17) L45_2 HT_ ?_
       refine pu_ 2 (some 18) L45_3 HT_ ?_
       refine pu_ 3 (some 19) L45_4 HT_ ?_
       refine skips_ (fuel := 1) (m := 11) HT_.out (fun _ _ _ _ _ h => h) [(4, 20), (5, 21), (6, 22), (7, 23), (8, 24), (9, 25), (10, 26), (11, 27), (12, 28), (13, 29)] L45_14 rfl (by kernel_rfl) (by kernel_rfl) (a' := ?_) ?_ ?_
       rotate_left
       ·simp only [putU, Act.put, sA_, sB_, sC_]
        rfl
       refine pu_ 14 (some 30) L45_15 HT_ ?_
       refine done_ (done_of HT_.out (by kernel_rfl)) ?_
       try go_wp2
       go_roundg k2
       case measure => have := HK1.out; have := HK2.out; omega
       case rel => exact ⟨(x0_2), (wrap64 (x6_1 + 1)), (by first | rfl | (simp; done) | (simp [*]; done)), H', ⟨by have := HK1.out; have := HK2.out; omega⟩, ⟨mvR_ HO_0.out⟩, ⟨by repeat (first | (with_reducible first | exact HK.out | apply Kept.alloc | apply Kept.drewN | apply Kept.drew) | exact HK.out)⟩, ⟨bq0_ HB.out⟩⟩
   ·rw [if_neg c4] at H
    have c4b0 : decide (x6_1 < a2) = false := decide_eq_false c4
    clear c4
    obtain rfl := Option.some.inj H
    go_wp2
    first | go_end0 | ((try simp only [Exit.inBlock, Exit.then]); refine bodyPost_ret (results_none rfl _ _ _) rfl ?_)
    exact ⟨by first | rfl | (simp <;> rfl) | (simp [*] <;> rfl), mvR_ HO_0.out, bq0_ HB.out, by repeat (first | (with_reducible first | exact HK.out | apply Kept.alloc | apply Kept.drewN | apply Kept.drew) | exact HK.out)⟩

end Go.Proofs.Ytklnbfdoklcmfaa.A
