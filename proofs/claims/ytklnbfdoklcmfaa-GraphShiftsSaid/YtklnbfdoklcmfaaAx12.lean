/- Lean functions that answer as the Go functions do, and the proofs that they do; no conditions. Written by this session's own driver: a scratch copy of the kit's print with the session's additions (wip/xprint). -/
import Derived.Test.YtklnbfdoklcmfaaAx0
namespace Go.Proofs.Ytklnbfdoklcmfaa.A
open Go.RowKit Go.Proofs.YtklnbfdoklcmfaaW.PrintWords Go.Proofs.YtklnbfdoklcmfaaW.PrintLast Go.Proofs.YtklnbfdoklcmfaaW.PrintMore
attribute [local go_sem] max2_int min2_int max_two min_two max_three min_three max_four min_four   -- for this text's walks alone
set_option linter.unusedVariables false
set_option linter.unusedSimpArgs false

/-! ### fullerref10_Few: function 10 -/
def fullerref10_Few.l0 : Nat → List (S35) → Int → Option (Bool)
  | 0, _, _ => none
  | k + 1, x0, x3 => if x3 < (x0.length : Int) then (if 0 ≤ x3 then (if (((rd_T35 x0 x3).f1).length : Int) > 30 then (some false) else (if (((rd_T35 x0 x3).f2).length : Int) > 30 then (some false) else (fullerref10_Few.l0 k x0 (wrap64 (x3 + 1))))) else (none)) else (some (decide ((x0.length : Int) ≤ 30)))
def fullerref10_Few.f (k : Nat) (l0 : List (S35)) : Option (Bool) := fullerref10_Few.l0 k l0 0
theorem fullerref10_Few.mono_l : ∀ k, (∀ y0 y1, LeO (fullerref10_Few.l0 k y0 y1) (fullerref10_Few.l0 (k + 1) y0 y1))
  | 0 => fun _ _ r h => by simp [fullerref10_Few.l0] at h
  | k + 1 => by
    have ih0 := fullerref10_Few.mono_l k
    · intro y0 y1
      unfold fullerref10_Few.l0
      repeat' first
      | (with_reducible exact ih0 _ _)
      | (with_reducible exact LeO.refl _)
      | (with_reducible exact LeO.none _)
      | (with_reducible refine LeO.ite ?_ ?_)
      | (with_reducible refine LeO.bind ?_ (fun _ => ?_))
      | exact ih0 _ _
      | exact LeO.none _
      | refine LeO.ite ?_ ?_
      | refine LeO.bind ?_ (fun _ => ?_)
theorem fullerref10_Few.mono : ∀ a0 k, LeO (fullerref10_Few.f k a0) (fullerref10_Few.f (k + 1) a0) := by
  intro a0 k
  have ih0 := fullerref10_Few.mono_l k
  unfold fullerref10_Few.f
  repeat' first
      | (with_reducible exact ih0 _ _)
      | (with_reducible exact LeO.refl _)
      | (with_reducible exact LeO.none _)
      | (with_reducible refine LeO.ite ?_ ?_)
      | (with_reducible refine LeO.bind ?_ (fun _ => ?_))
      | exact ih0 _ _
      | exact LeO.none _
      | refine LeO.ite ?_ ?_
      | refine LeO.bind ?_ (fun _ => ?_)
set_option maxHeartbeats 8000000 in
set_option maxRecDepth 100000 in
theorem fullerref10_Few.calls (k : Nat) (A0 : Option Addr) (c0 : Nat) (l0 : List (S35)) (r : Bool) (w : World) (hr0 : Kd.C k35 w A0 l0.length l0) (hc0 : l0.length ≤ c0) (h : fullerref10_Few.f k l0 = some r) :
    Calls Try.prog 10 #[.slice A0 l0.length c0] w fun e w' => e = .returned (.bool r) ∧ Drawn0 w w' := by
  have HR0 := Aside0.mk hr0
  have HC0 := Aside0.mk hc0
  clear hr0 hc0
  have H : (fullerref10_Few.l0 k l0 0) = some r := h
  clear h
  have H' := Aside0.mk H
  clear H
  go_enter Try.func10, Try.ntmps10
  go_wp2
  go_loopg [3] k (fun kq v3 w' => ∃ (x3_1 : Int), v3 = .int .i64 x3_1 ∧ Aside0 (fullerref10_Few.l0 kq l0 x3_1 = some r) ∧ Aside0 (kq ≤ k) ∧ Drawn0 w w')
  case atStart => exact ⟨(0), (by first | rfl | (simp; done) | (simp [*]; done)), H', ⟨Nat.le_refl _⟩, by repeat (first | exact Drawn0.refl _ | apply Drawn0.step)⟩
  case round =>
    clear H'
    try clear c1
    obtain ⟨x3_1, rfl, HA, HK1, ⟨m1, rfl⟩⟩ := hrel
    cases gk with
    | zero => exact absurd HA.out (by simp [fullerref10_Few.l0])
    | succ k1 =>
      have H := HA.out
      clear HA
      simp only [fullerref10_Few.l0] at H
      by_cases c2 : x3_1 < (l0.length : Int)
      · rw [if_pos c2] at H
        have c2b0 : decide (x3_1 < (l0.length : Int)) = true := decide_eq_true c2
        clear c2
        by_cases c3 : 0 ≤ x3_1
        · rw [if_pos c3] at H
          have c3b0 : decide (0 ≤ x3_1) = true := decide_eq_true c3
          clear c3
          by_cases c4 : (((rd_T35 l0 x3_1).f1).length : Int) > 30
          · rw [if_pos c4] at H
            have c4b0 : decide (30 < (((rd_T35 l0 x3_1).f1).length : Int)) = true := decide_eq_true c4
            have c4b1 : decide (30 < ((rd_T35 l0 x3_1).f1).length) = true := decide_eq_true (by omega)
            clear c4
            obtain rfl := Option.some.inj H
            have p305 : 0 ≤ (x3_1 : Int) := of_decide_eq_true (by first | (with_reducible assumption) | assumption)
            have q305 : x3_1 < (l0.length : Int) := of_decide_eq_true (by first | (with_reducible assumption) | assumption)
            obtain ⟨ad305, A305_1, c305_1, A305_2, c305_2, e305, hx305_0, hx305_1, hx305_2, hl305_1, hi305_1, hl305_2, hi305_2⟩ := at_T35 HR0.out x3_1 p305 q305
            cases e305
            have HR305_1 := Aside0.mk hi305_1
            have HC305_1 := Aside0.mk hl305_1
            clear hi305_1 hl305_1
            have HR305_2 := Aside0.mk hi305_2
            have HC305_2 := Aside0.mk hl305_2
            clear hi305_2 hl305_2
            replace p305 := eq_true p305
            replace q305 := eq_true q305
            go_wp2
            go_ret
            exact ⟨by first | rfl | (simp; done) | (simp [*]; done), by repeat (first | exact Drawn0.refl _ | apply Drawn0.step)⟩
          · rw [if_neg c4] at H
            have c4b0 : decide (30 < (((rd_T35 l0 x3_1).f1).length : Int)) = false := decide_eq_false c4
            have c4b1 : decide (30 < ((rd_T35 l0 x3_1).f1).length) = false := decide_eq_false (by omega)
            clear c4
            by_cases c5 : (((rd_T35 l0 x3_1).f2).length : Int) > 30
            · rw [if_pos c5] at H
              have c5b0 : decide (30 < (((rd_T35 l0 x3_1).f2).length : Int)) = true := decide_eq_true c5
              have c5b1 : decide (30 < ((rd_T35 l0 x3_1).f2).length) = true := decide_eq_true (by omega)
              clear c5
              obtain rfl := Option.some.inj H
              have p305 : 0 ≤ (x3_1 : Int) := of_decide_eq_true (by first | (with_reducible assumption) | assumption)
              have q305 : x3_1 < (l0.length : Int) := of_decide_eq_true (by first | (with_reducible assumption) | assumption)
              obtain ⟨ad305, A305_1, c305_1, A305_2, c305_2, e305, hx305_0, hx305_1, hx305_2, hl305_1, hi305_1, hl305_2, hi305_2⟩ := at_T35 HR0.out x3_1 p305 q305
              cases e305
              have HR305_1 := Aside0.mk hi305_1
              have HC305_1 := Aside0.mk hl305_1
              clear hi305_1 hl305_1
              have HR305_2 := Aside0.mk hi305_2
              have HC305_2 := Aside0.mk hl305_2
              clear hi305_2 hl305_2
              replace p305 := eq_true p305
              replace q305 := eq_true q305
              have p306 : 0 ≤ (x3_1 : Int) := of_decide_eq_true (by first | (with_reducible assumption) | assumption)
              have q306 : x3_1 < (l0.length : Int) := of_decide_eq_true (by first | (with_reducible assumption) | assumption)
              obtain ⟨ad306, A306_1, c306_1, A306_2, c306_2, e306, hx306_0, hx306_1, hx306_2, hl306_1, hi306_1, hl306_2, hi306_2⟩ := at_T35 HR0.out x3_1 p306 q306
              obtain rfl : ad305 = ad306 := (by injection e306)
              have HR306_1 := Aside0.mk hi306_1
              have HC306_1 := Aside0.mk hl306_1
              clear hi306_1 hl306_1
              have HR306_2 := Aside0.mk hi306_2
              have HC306_2 := Aside0.mk hl306_2
              clear hi306_2 hl306_2
              replace p306 := eq_true p306
              replace q306 := eq_true q306
              have ea_ := Option.some.inj (hx305_1.symm.trans hx306_1)
              injection ea_ with ea_ en_ ec_
              subst ea_
              subst ec_
              clear en_
              have ea_ := Option.some.inj (hx305_2.symm.trans hx306_2)
              injection ea_ with ea_ en_ ec_
              subst ea_
              subst ec_
              clear en_
              go_wp2
              go_ret
              exact ⟨by first | rfl | (simp; done) | (simp [*]; done), by repeat (first | exact Drawn0.refl _ | apply Drawn0.step)⟩
            · rw [if_neg c5] at H
              have c5b0 : decide (30 < (((rd_T35 l0 x3_1).f2).length : Int)) = false := decide_eq_false c5
              have c5b1 : decide (30 < ((rd_T35 l0 x3_1).f2).length) = false := decide_eq_false (by omega)
              clear c5
              have H' := Aside0.mk H
              clear H
              have p305 : 0 ≤ (x3_1 : Int) := of_decide_eq_true (by first | (with_reducible assumption) | assumption)
              have q305 : x3_1 < (l0.length : Int) := of_decide_eq_true (by first | (with_reducible assumption) | assumption)
              obtain ⟨ad305, A305_1, c305_1, A305_2, c305_2, e305, hx305_0, hx305_1, hx305_2, hl305_1, hi305_1, hl305_2, hi305_2⟩ := at_T35 HR0.out x3_1 p305 q305
              cases e305
              have HR305_1 := Aside0.mk hi305_1
              have HC305_1 := Aside0.mk hl305_1
              clear hi305_1 hl305_1
              have HR305_2 := Aside0.mk hi305_2
              have HC305_2 := Aside0.mk hl305_2
              clear hi305_2 hl305_2
              replace p305 := eq_true p305
              replace q305 := eq_true q305
              have p306 : 0 ≤ (x3_1 : Int) := of_decide_eq_true (by first | (with_reducible assumption) | assumption)
              have q306 : x3_1 < (l0.length : Int) := of_decide_eq_true (by first | (with_reducible assumption) | assumption)
              obtain ⟨ad306, A306_1, c306_1, A306_2, c306_2, e306, hx306_0, hx306_1, hx306_2, hl306_1, hi306_1, hl306_2, hi306_2⟩ := at_T35 HR0.out x3_1 p306 q306
              obtain rfl : ad305 = ad306 := (by injection e306)
              have HR306_1 := Aside0.mk hi306_1
              have HC306_1 := Aside0.mk hl306_1
              clear hi306_1 hl306_1
              have HR306_2 := Aside0.mk hi306_2
              have HC306_2 := Aside0.mk hl306_2
              clear hi306_2 hl306_2
              replace p306 := eq_true p306
              replace q306 := eq_true q306
              have ea_ := Option.some.inj (hx305_1.symm.trans hx306_1)
              injection ea_ with ea_ en_ ec_
              subst ea_
              subst ec_
              clear en_
              have ea_ := Option.some.inj (hx305_2.symm.trans hx306_2)
              injection ea_ with ea_ en_ ec_
              subst ea_
              subst ec_
              clear en_
              go_wp2
              go_roundg k1
              case measure => have := HK1.out; omega
              case rel => exact ⟨(wrap64 (x3_1 + 1)), (by first | rfl | (simp; done) | (simp [*]; done)), H', ⟨by have := HK1.out; omega⟩, by repeat (first | exact Drawn0.refl _ | apply Drawn0.step)⟩
        · rw [if_neg c3] at H
          exact absurd H (by simp)
      · rw [if_neg c2] at H
        have c2b0 : decide (x3_1 < (l0.length : Int)) = false := decide_eq_false c2
        clear c2
        obtain rfl := Option.some.inj H
        go_wp2
        go_ret
        exact ⟨by first | rfl | (simp; done) | (simp [*]; done), by repeat (first | exact Drawn0.refl _ | apply Drawn0.step)⟩

/-! ### fullerref10_Arity: function 16 -/
mutual
def fullerref10_Arity.j0 : Nat → Int → Bool → Option (Int)
 | 0, _, _ => none
 | k + 1, x0, x8 => if x8 = true then (some 0) else (if x0 ≥ 10 then (if x0 ≤ 13 then (fullerref10_Arity.j1 k x0 true) else (if x0 = 30 then (fullerref10_Arity.j1 k x0 true) else (fullerref10_Arity.j1 k x0 (x0 == 43)))) else (if x0 = 30 then (fullerref10_Arity.j1 k x0 true) else (fullerref10_Arity.j1 k x0 (x0 == 43))))
def fullerref10_Arity.j1 : Nat → Int → Bool → Option (Int)
 | 0, _, _ => none
 | k + 1, x0, x22 => if x22 = true then (some 2) else (if x0 ≥ 20 then (if x0 ≤ 23 then (some 1) else (if x0 ≥ 40 then (if x0 ≤ 42 then (some 1) else (if x0 ≥ 50 then (if x0 ≤ 52 then (some 1) else (some (-1))) else (some (-1)))) else (if x0 ≥ 50 then (if x0 ≤ 52 then (some 1) else (some (-1))) else (some (-1))))) else (if x0 ≥ 40 then (if x0 ≤ 42 then (some 1) else (if x0 ≥ 50 then (if x0 ≤ 52 then (some 1) else (some (-1))) else (some (-1)))) else (if x0 ≥ 50 then (if x0 ≤ 52 then (some 1) else (some (-1))) else (some (-1)))))
end
def fullerref10_Arity.f (k : Nat) (a0 : Int) : Option (Int) := if a0 ≥ 1 then (fullerref10_Arity.j0 k a0 (decide (a0 ≤ 3))) else (fullerref10_Arity.j0 k a0 false)
theorem fullerref10_Arity.mono_l : ∀ k, (∀ y0 y1, LeO (fullerref10_Arity.j0 k y0 y1) (fullerref10_Arity.j0 (k + 1) y0 y1)) ∧ (∀ y0 y1, LeO (fullerref10_Arity.j1 k y0 y1) (fullerref10_Arity.j1 (k + 1) y0 y1))
 | 0 => ⟨fun _ _ r h => by simp [fullerref10_Arity.j0] at h, fun _ _ r h => by simp [fullerref10_Arity.j1] at h⟩
 | k + 1 => by
  obtain ⟨ih0, ih1⟩ := fullerref10_Arity.mono_l k
  refine ⟨?_, ?_⟩
  ·intro y0 y1
   unfold fullerref10_Arity.j0
   repeat' first
   | (with_reducible exact ih0 _ _)
   | (with_reducible exact ih1 _ _)
   | (with_reducible exact LeO.refl _)
   | (with_reducible exact LeO.none _)
   | (with_reducible refine LeO.ite ?_ ?_)
   | (with_reducible refine LeO.bind ?_ (fun _ => ?_))
   | exact ih0 _ _
   | exact ih1 _ _
   | exact LeO.none _
   | refine LeO.ite ?_ ?_
   | refine LeO.bind ?_ (fun _ => ?_)
  ·intro y0 y1
   unfold fullerref10_Arity.j1
   repeat' first
   | (with_reducible exact ih0 _ _)
   | (with_reducible exact ih1 _ _)
   | (with_reducible exact LeO.refl _)
   | (with_reducible exact LeO.none _)
   | (with_reducible refine LeO.ite ?_ ?_)
   | (with_reducible refine LeO.bind ?_ (fun _ => ?_))
   | exact ih0 _ _
   | exact ih1 _ _
   | exact LeO.none _
   | refine LeO.ite ?_ ?_
   | refine LeO.bind ?_ (fun _ => ?_)
theorem fullerref10_Arity.mono : ∀ a0 k, LeO (fullerref10_Arity.f k a0) (fullerref10_Arity.f (k + 1) a0) := by
 intro a0 k
 obtain ⟨ih0, ih1⟩ := fullerref10_Arity.mono_l k
 unfold fullerref10_Arity.f
 repeat' first
   | (with_reducible exact ih0 _ _)
   | (with_reducible exact ih1 _ _)
   | (with_reducible exact LeO.refl _)
   | (with_reducible exact LeO.none _)
   | (with_reducible refine LeO.ite ?_ ?_)
   | (with_reducible refine LeO.bind ?_ (fun _ => ?_))
   | exact ih0 _ _
   | exact ih1 _ _
   | exact LeO.none _
   | refine LeO.ite ?_ ?_
   | refine LeO.bind ?_ (fun _ => ?_)
set_option maxHeartbeats 8000000 in
set_option maxRecDepth 100000 in
theorem fullerref10_Arity.calls (k : Nat) (a0 : Int) (r : Int) (w : World) (h : fullerref10_Arity.f k a0 = some r) :
  Calls Try.prog 16 #[.int .i64 a0] w fun e w' => e = .returned (.int .i64 r) ∧ Drawn0 w w' := by
 have H : (if a0 ≥ 1 then (fullerref10_Arity.j0 k a0 (decide (a0 ≤ 3))) else (fullerref10_Arity.j0 k a0 false)) = some r := h
 clear h
 have HC2 := Aside0.mk H
 clear H
 go_enter Try.func16, Try.ntmps16
 go_upto_region 1 with (fail)
 go_cut [8] (fun v8 wc => ∃ (kq : Nat) (x8_1 : Bool), v8 = .bool x8_1 ∧ Aside0 (fullerref10_Arity.j0 kq a0 x8_1 = some r) ∧ Aside0 (kq ≤ k) ∧ Drawn0 w wc)
 case first =>
  have H := HC2.out
  clear HC2
  by_cases c3 : a0 ≥ 1
  ·rw [if_pos c3] at H
   have c3b0 : decide (1 ≤ a0) = true := decide_eq_true c3
   clear c3
   (first | rw [c3b0] | (simp only [i64_w, i32_w]; rw [c3b0]) | skip)
   have H' := Aside0.mk H
   clear H
   go_wp2
   go_meet
   case rel => exact ⟨_, (decide (a0 ≤ 3)), (by first | rfl | (simp; done) | (simp [*]; done)), H', ⟨by first | omega | exact Nat.le_refl _⟩, by repeat (first | exact Drawn0.refl _ | apply Drawn0.step)⟩
  ·rw [if_neg c3] at H
   have c3b0 : decide (1 ≤ a0) = false := decide_eq_false c3
   clear c3
   (first | rw [c3b0] | (simp only [i64_w, i32_w]; rw [c3b0]) | skip)
   have H' := Aside0.mk H
   clear H
   go_wp2
   go_meet
   case rel => exact ⟨_, (false), (by first | rfl | (simp; done) | (simp [*]; done)), H', ⟨by first | omega | exact Nat.le_refl _⟩, by repeat (first | exact Drawn0.refl _ | apply Drawn0.step)⟩
 case rest =>
  clear HC2
  try clear c1
  try clear p2
  try clear c3
  try clear c3b0
  obtain ⟨kq, x8_1, rfl, HA, HJ1, ⟨mc1, rfl⟩⟩ := hcut
  cases kq with
  | zero => exact absurd HA.out (by simp [fullerref10_Arity.j0])
  | succ kj1 =>
   have H := HA.out
   clear HA
   simp only [fullerref10_Arity.j0] at H
   by_cases c4 : x8_1 = true
   ·subst c4
    have H1 : (some 0) = some r := by rw [if_pos rfl] at H; exact H
    clear H
    have H := H1
    clear H1
    obtain rfl := Option.some.inj H
    go_wp2
    go_ret
    exact ⟨by first | rfl | (simp; done) | (simp [*]; done), by repeat (first | exact Drawn0.refl _ | apply Drawn0.step)⟩
   ·replace c4 := Bool.eq_false_iff.mpr c4
    subst c4
    have H1 : (if a0 ≥ 10 then (if a0 ≤ 13 then (fullerref10_Arity.j1 kj1 a0 true) else (if a0 = 30 then (fullerref10_Arity.j1 kj1 a0 true) else (fullerref10_Arity.j1 kj1 a0 (a0 == 43)))) else (if a0 = 30 then (fullerref10_Arity.j1 kj1 a0 true) else (fullerref10_Arity.j1 kj1 a0 (a0 == 43)))) = some r := by rw [if_neg (show ¬ (false = true) by decide)] at H; exact H
    clear H
    have H := H1
    clear H1
    have HC5 := Aside0.mk H
    clear H
    go_upto_region 3 with (fail)
    go_cut [22] (fun v22 wc => ∃ (kq : Nat) (x22_4 : Bool), v22 = .bool x22_4 ∧ Aside0 (fullerref10_Arity.j1 kq a0 x22_4 = some r) ∧ Aside0 (kq ≤ kj1) ∧ Drawn0 w wc)
    case first =>
     have H := HC5.out
     clear HC5
     by_cases c6 : a0 ≥ 10
     ·rw [if_pos c6] at H
      have c6b0 : decide (10 ≤ a0) = true := decide_eq_true c6
      clear c6
      (first | rw [c6b0] | (simp only [i64_w, i32_w]; rw [c6b0]) | skip)
      by_cases c7 : a0 ≤ 13
      ·rw [if_pos c7] at H
       have c7b0 : decide (a0 ≤ 13) = true := decide_eq_true c7
       clear c7
       have H' := Aside0.mk H
       clear H
       go_wp2
       go_meet
       case rel => exact ⟨_, (true), (by first | rfl | (simp; done) | (simp [*]; done)), H', ⟨by have := HJ1.out; first | omega | exact Nat.le_refl _⟩, by repeat (first | exact Drawn0.refl _ | apply Drawn0.step)⟩
      ·rw [if_neg c7] at H
       have c7b0 : decide (a0 ≤ 13) = false := decide_eq_false c7
       clear c7
       by_cases c8 : a0 = 30
       ·rw [if_pos c8] at H
        obtain ⟨c8b0, c8b1⟩ := eqT_ c8
        clear c8
        have H' := Aside0.mk H
        clear H
        go_wp2
        go_meet
        case rel => exact ⟨_, (true), (by first | rfl | (simp; done) | (simp [*]; done)), H', ⟨by have := HJ1.out; first | omega | exact Nat.le_refl _⟩, by repeat (first | exact Drawn0.refl _ | apply Drawn0.step)⟩
       ·rw [if_neg c8] at H
        have c8b0 : (a0 == 30) = false := beq_eq_false_iff_ne.mpr c8
        have c8b1 : (a0 != 30) = true := bne_iff_ne.mpr c8
        have H' := Aside0.mk H
        clear H
        go_wp2
        go_meet
        case rel => exact ⟨_, ((a0 == 43)), (by first | rfl | (simp; done) | (simp [*]; done)), H', ⟨by have := HJ1.out; first | omega | exact Nat.le_refl _⟩, by repeat (first | exact Drawn0.refl _ | apply Drawn0.step)⟩
     ·rw [if_neg c6] at H
      have c6b0 : decide (10 ≤ a0) = false := decide_eq_false c6
      clear c6
      (first | rw [c6b0] | (simp only [i64_w, i32_w]; rw [c6b0]) | skip)
      by_cases c9 : a0 = 30
      ·rw [if_pos c9] at H
       obtain ⟨c9b0, c9b1⟩ := eqT_ c9
       clear c9
       have H' := Aside0.mk H
       clear H
       go_wp2
       go_meet
       case rel => exact ⟨_, (true), (by first | rfl | (simp; done) | (simp [*]; done)), H', ⟨by have := HJ1.out; first | omega | exact Nat.le_refl _⟩, by repeat (first | exact Drawn0.refl _ | apply Drawn0.step)⟩
      ·rw [if_neg c9] at H
       have c9b0 : (a0 == 30) = false := beq_eq_false_iff_ne.mpr c9
       have c9b1 : (a0 != 30) = true := bne_iff_ne.mpr c9
       have H' := Aside0.mk H
       clear H
       go_wp2
       go_meet
       case rel => exact ⟨_, ((a0 == 43)), (by first | rfl | (simp; done) | (simp [*]; done)), H', ⟨by have := HJ1.out; first | omega | exact Nat.le_refl _⟩, by repeat (first | exact Drawn0.refl _ | apply Drawn0.step)⟩
    case rest =>
     clear HC5
     try clear c1
     try clear p2
     try clear c3
     try clear c3b0
     try clear c4
     try clear c6
     try clear c6b0
     try clear c7
     try clear c7b0
     try clear c8
     try clear c8b0
     try clear c8b1
     try clear c9
     try clear c9b0
     try clear c9b1
     try clear p2
     obtain ⟨kq, x22_4, rfl, HA, HJ4, ⟨mc4, rfl⟩⟩ := hcut
     cases kq with
     | zero => exact absurd HA.out (by simp [fullerref10_Arity.j1])
     | succ kj4 =>
      have H := HA.out
      clear HA
      simp only [fullerref10_Arity.j1] at H
      by_cases c10 : x22_4 = true
      ·subst c10
       have H1 : (some 2) = some r := by rw [if_pos rfl] at H; exact H
       clear H
       have H := H1
       clear H1
       obtain rfl := Option.some.inj H
       go_wp2
       go_ret
       exact ⟨by first | rfl | (simp; done) | (simp [*]; done), by repeat (first | exact Drawn0.refl _ | apply Drawn0.step)⟩
      ·replace c10 := Bool.eq_false_iff.mpr c10
       subst c10
       have H1 : (if a0 ≥ 20 then (if a0 ≤ 23 then (some 1) else (if a0 ≥ 40 then (if a0 ≤ 42 then (some 1) else (if a0 ≥ 50 then (if a0 ≤ 52 then (some 1) else (some (-1))) else (some (-1)))) else (if a0 ≥ 50 then (if a0 ≤ 52 then (some 1) else (some (-1))) else (some (-1))))) else (if a0 ≥ 40 then (if a0 ≤ 42 then (some 1) else (if a0 ≥ 50 then (if a0 ≤ 52 then (some 1) else (some (-1))) else (some (-1)))) else (if a0 ≥ 50 then (if a0 ≤ 52 then (some 1) else (some (-1))) else (some (-1))))) = some r := by rw [if_neg (show ¬ (false = true) by decide)] at H; exact H
       clear H
       have H := H1
       clear H1
       by_cases c11 : a0 ≥ 20
       ·rw [if_pos c11] at H
        have c11b0 : decide (20 ≤ a0) = true := decide_eq_true c11
        clear c11
        by_cases c12 : a0 ≤ 23
        ·rw [if_pos c12] at H
         have c12b0 : decide (a0 ≤ 23) = true := decide_eq_true c12
         clear c12
         obtain rfl := Option.some.inj H
         go_wp2
         go_ret
         exact ⟨by first | rfl | (simp; done) | (simp [*]; done), by repeat (first | exact Drawn0.refl _ | apply Drawn0.step)⟩
        ·rw [if_neg c12] at H
         have c12b0 : decide (a0 ≤ 23) = false := decide_eq_false c12
         clear c12
         by_cases c13 : a0 ≥ 40
         ·rw [if_pos c13] at H
          have c13b0 : decide (40 ≤ a0) = true := decide_eq_true c13
          clear c13
          by_cases c14 : a0 ≤ 42
          ·rw [if_pos c14] at H
           have c14b0 : decide (a0 ≤ 42) = true := decide_eq_true c14
           clear c14
           obtain rfl := Option.some.inj H
           go_wp2
           go_ret
           exact ⟨by first | rfl | (simp; done) | (simp [*]; done), by repeat (first | exact Drawn0.refl _ | apply Drawn0.step)⟩
          ·rw [if_neg c14] at H
           have c14b0 : decide (a0 ≤ 42) = false := decide_eq_false c14
           clear c14
           by_cases c15 : a0 ≥ 50
           ·rw [if_pos c15] at H
            have c15b0 : decide (50 ≤ a0) = true := decide_eq_true c15
            clear c15
            by_cases c16 : a0 ≤ 52
            ·rw [if_pos c16] at H
             have c16b0 : decide (a0 ≤ 52) = true := decide_eq_true c16
             clear c16
             obtain rfl := Option.some.inj H
             go_wp2
             go_ret
             exact ⟨by first | rfl | (simp; done) | (simp [*]; done), by repeat (first | exact Drawn0.refl _ | apply Drawn0.step)⟩
            ·rw [if_neg c16] at H
             have c16b0 : decide (a0 ≤ 52) = false := decide_eq_false c16
             clear c16
             obtain rfl := Option.some.inj H
             go_wp2
             go_ret
             exact ⟨by first | rfl | (simp; done) | (simp [*]; done), by repeat (first | exact Drawn0.refl _ | apply Drawn0.step)⟩
           ·rw [if_neg c15] at H
            have c15b0 : decide (50 ≤ a0) = false := decide_eq_false c15
            clear c15
            obtain rfl := Option.some.inj H
            go_wp2
            go_ret
            exact ⟨by first | rfl | (simp; done) | (simp [*]; done), by repeat (first | exact Drawn0.refl _ | apply Drawn0.step)⟩
         ·rw [if_neg c13] at H
          have c13b0 : decide (40 ≤ a0) = false := decide_eq_false c13
          clear c13
          by_cases c17 : a0 ≥ 50
          ·rw [if_pos c17] at H
           have c17b0 : decide (50 ≤ a0) = true := decide_eq_true c17
           clear c17
           by_cases c18 : a0 ≤ 52
           ·rw [if_pos c18] at H
            have c18b0 : decide (a0 ≤ 52) = true := decide_eq_true c18
            clear c18
            obtain rfl := Option.some.inj H
            go_wp2
            go_ret
            exact ⟨by first | rfl | (simp; done) | (simp [*]; done), by repeat (first | exact Drawn0.refl _ | apply Drawn0.step)⟩
           ·rw [if_neg c18] at H
            have c18b0 : decide (a0 ≤ 52) = false := decide_eq_false c18
            clear c18
            obtain rfl := Option.some.inj H
            go_wp2
            go_ret
            exact ⟨by first | rfl | (simp; done) | (simp [*]; done), by repeat (first | exact Drawn0.refl _ | apply Drawn0.step)⟩
          ·rw [if_neg c17] at H
           have c17b0 : decide (50 ≤ a0) = false := decide_eq_false c17
           clear c17
           obtain rfl := Option.some.inj H
           go_wp2
           go_ret
           exact ⟨by first | rfl | (simp; done) | (simp [*]; done), by repeat (first | exact Drawn0.refl _ | apply Drawn0.step)⟩
       ·rw [if_neg c11] at H
        have c11b0 : decide (20 ≤ a0) = false := decide_eq_false c11
        clear c11
        by_cases c19 : a0 ≥ 40
        ·rw [if_pos c19] at H
         have c19b0 : decide (40 ≤ a0) = true := decide_eq_true c19
         clear c19
         by_cases c20 : a0 ≤ 42
         ·rw [if_pos c20] at H
          have c20b0 : decide (a0 ≤ 42) = true := decide_eq_true c20
          clear c20
          obtain rfl := Option.some.inj H
          go_wp2
          go_ret
          exact ⟨by first | rfl | (simp; done) | (simp [*]; done), by repeat (first | exact Drawn0.refl _ | apply Drawn0.step)⟩
         ·rw [if_neg c20] at H
          have c20b0 : decide (a0 ≤ 42) = false := decide_eq_false c20
          clear c20
          by_cases c21 : a0 ≥ 50
          ·rw [if_pos c21] at H
           have c21b0 : decide (50 ≤ a0) = true := decide_eq_true c21
           clear c21
           by_cases c22 : a0 ≤ 52
           ·rw [if_pos c22] at H
            have c22b0 : decide (a0 ≤ 52) = true := decide_eq_true c22
            clear c22
            obtain rfl := Option.some.inj H
            go_wp2
            go_ret
            exact ⟨by first | rfl | (simp; done) | (simp [*]; done), by repeat (first | exact Drawn0.refl _ | apply Drawn0.step)⟩
           ·rw [if_neg c22] at H
            have c22b0 : decide (a0 ≤ 52) = false := decide_eq_false c22
            clear c22
            obtain rfl := Option.some.inj H
            go_wp2
            go_ret
            exact ⟨by first | rfl | (simp; done) | (simp [*]; done), by repeat (first | exact Drawn0.refl _ | apply Drawn0.step)⟩
          ·rw [if_neg c21] at H
           have c21b0 : decide (50 ≤ a0) = false := decide_eq_false c21
           clear c21
           obtain rfl := Option.some.inj H
           go_wp2
           go_ret
           exact ⟨by first | rfl | (simp; done) | (simp [*]; done), by repeat (first | exact Drawn0.refl _ | apply Drawn0.step)⟩
        ·rw [if_neg c19] at H
         have c19b0 : decide (40 ≤ a0) = false := decide_eq_false c19
         clear c19
         by_cases c23 : a0 ≥ 50
         ·rw [if_pos c23] at H
          have c23b0 : decide (50 ≤ a0) = true := decide_eq_true c23
          clear c23
          by_cases c24 : a0 ≤ 52
          ·rw [if_pos c24] at H
           have c24b0 : decide (a0 ≤ 52) = true := decide_eq_true c24
           clear c24
           obtain rfl := Option.some.inj H
           go_wp2
           go_ret
           exact ⟨by first | rfl | (simp; done) | (simp [*]; done), by repeat (first | exact Drawn0.refl _ | apply Drawn0.step)⟩
          ·rw [if_neg c24] at H
           have c24b0 : decide (a0 ≤ 52) = false := decide_eq_false c24
           clear c24
           obtain rfl := Option.some.inj H
           go_wp2
           go_ret
           exact ⟨by first | rfl | (simp; done) | (simp [*]; done), by repeat (first | exact Drawn0.refl _ | apply Drawn0.step)⟩
         ·rw [if_neg c23] at H
          have c23b0 : decide (50 ≤ a0) = false := decide_eq_false c23
          clear c23
          obtain rfl := Option.some.inj H
          go_wp2
          go_ret
          exact ⟨by first | rfl | (simp; done) | (simp [*]; done), by repeat (first | exact Drawn0.refl _ | apply Drawn0.step)⟩

/-! ### fullerref02_product: function 44 -/
def fullerref02_product.l0 : Nat → List Int → Int → Int → Option (Int)
  | 0, _, _, _ => none
  | k + 1, x0, x3, x4 => if x4 < (x0.length : Int) then (if 0 ≤ x4 then (fullerref02_product.l0 k x0 (wrap64 (x3 * (rd x0 x4))) (wrap64 (x4 + 1))) else (none)) else (some x3)
def fullerref02_product.f (k : Nat) (l0 : List Int) : Option (Int) := fullerref02_product.l0 k l0 1 0
theorem fullerref02_product.mono_l : ∀ k, (∀ y0 y1 y2, LeO (fullerref02_product.l0 k y0 y1 y2) (fullerref02_product.l0 (k + 1) y0 y1 y2))
  | 0 => fun _ _ _ r h => by simp [fullerref02_product.l0] at h
  | k + 1 => by
    have ih0 := fullerref02_product.mono_l k
    · intro y0 y1 y2
      unfold fullerref02_product.l0
      repeat' first
      | (with_reducible exact ih0 _ _ _)
      | (with_reducible exact LeO.refl _)
      | (with_reducible exact LeO.none _)
      | (with_reducible refine LeO.ite ?_ ?_)
      | (with_reducible refine LeO.bind ?_ (fun _ => ?_))
      | exact ih0 _ _ _
      | exact LeO.none _
      | refine LeO.ite ?_ ?_
      | refine LeO.bind ?_ (fun _ => ?_)
theorem fullerref02_product.mono : ∀ a0 k, LeO (fullerref02_product.f k a0) (fullerref02_product.f (k + 1) a0) := by
  intro a0 k
  have ih0 := fullerref02_product.mono_l k
  unfold fullerref02_product.f
  repeat' first
      | (with_reducible exact ih0 _ _ _)
      | (with_reducible exact LeO.refl _)
      | (with_reducible exact LeO.none _)
      | (with_reducible refine LeO.ite ?_ ?_)
      | (with_reducible refine LeO.bind ?_ (fun _ => ?_))
      | exact ih0 _ _ _
      | exact LeO.none _
      | refine LeO.ite ?_ ?_
      | refine LeO.bind ?_ (fun _ => ?_)
set_option maxHeartbeats 8000000 in
set_option maxRecDepth 100000 in
theorem fullerref02_product.calls (k : Nat) (A0 : Option Addr) (c0 : Nat) (l0 : List Int) (r : Int) (w : World) (hr0 : Kd.C (Kd.int .i64) w A0 l0.length l0) (hc0 : l0.length ≤ c0) (h : fullerref02_product.f k l0 = some r) :
    Calls Try.prog 44 #[.slice A0 l0.length c0] w fun e w' => e = .returned (.int .i64 r) ∧ Drawn0 w w' := by
  have HR0 := Aside0.mk hr0
  have HC0 := Aside0.mk hc0
  clear hr0 hc0
  have H : (fullerref02_product.l0 k l0 1 0) = some r := h
  clear h
  have H' := Aside0.mk H
  clear H
  go_enter Try.func44, Try.ntmps44
  go_wp2
  go_loopg [3, 4] k (fun kq v3 v4 w' => ∃ (x3_1 : Int) (x4_1 : Int), v3 = .int .i64 x3_1 ∧ v4 = .int .i64 x4_1 ∧ Aside0 (fullerref02_product.l0 kq l0 x3_1 x4_1 = some r) ∧ Aside0 (kq ≤ k) ∧ Drawn0 w w')
  case atStart => exact ⟨(1), (0), (by first | rfl | (simp; done) | (simp [*]; done)), (by first | rfl | (simp; done) | (simp [*]; done)), H', ⟨Nat.le_refl _⟩, by repeat (first | exact Drawn0.refl _ | apply Drawn0.step)⟩
  case round =>
    clear H'
    obtain ⟨x3_1, x4_1, rfl, rfl, HA, HK1, ⟨m1, rfl⟩⟩ := hrel
    cases gk with
    | zero => exact absurd HA.out (by simp [fullerref02_product.l0])
    | succ k1 =>
      have H := HA.out
      clear HA
      simp only [fullerref02_product.l0] at H
      by_cases c2 : x4_1 < (l0.length : Int)
      · rw [if_pos c2] at H
        have c2b0 : decide (x4_1 < (l0.length : Int)) = true := decide_eq_true c2
        clear c2
        by_cases c3 : 0 ≤ x4_1
        · rw [if_pos c3] at H
          have c3b0 : decide (0 ≤ x4_1) = true := decide_eq_true c3
          clear c3
          have H' := Aside0.mk H
          clear H
          have p307 : 0 ≤ (x4_1 : Int) := of_decide_eq_true (by first | (with_reducible assumption) | assumption)
          have q307 : x4_1 < (l0.length : Int) := of_decide_eq_true (by first | (with_reducible assumption) | assumption)
          obtain ⟨ad307, e307, hx307_0⟩ := Kd.at_int HR0.out x4_1 p307 q307
          cases e307
          replace p307 := eq_true p307
          replace q307 := eq_true q307
          go_wp2
          go_roundg k1
          case measure => have := HK1.out; omega
          case rel => exact ⟨(wrap64 (x3_1 * (rd l0 x4_1))), (wrap64 (x4_1 + 1)), (by first | rfl | (simp; done) | (simp [*]; done)), (by first | rfl | (simp; done) | (simp [*]; done)), H', ⟨by have := HK1.out; omega⟩, by repeat (first | exact Drawn0.refl _ | apply Drawn0.step)⟩
        · rw [if_neg c3] at H
          exact absurd H (by simp)
      · rw [if_neg c2] at H
        have c2b0 : decide (x4_1 < (l0.length : Int)) = false := decide_eq_false c2
        clear c2
        obtain rfl := Option.some.inj H
        go_wp2
        go_ret
        exact ⟨by first | rfl | (simp; done) | (simp [*]; done), by repeat (first | exact Drawn0.refl _ | apply Drawn0.step)⟩

end Go.Proofs.Ytklnbfdoklcmfaa.A
