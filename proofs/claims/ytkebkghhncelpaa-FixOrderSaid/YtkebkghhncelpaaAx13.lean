/- Lean functions that answer as the Go functions do, and the proofs that they do; no conditions. Written by this session's own driver: a scratch copy of the kit's print with the session's additions (wip/xprint). -/
import Derived.Test.YtkebkghhncelpaaAx0
namespace Go.Proofs.Ytkebkghhncelpaa.A
open Go.RowKit Go.Proofs.YtkebkghhncelpaaW.PrintWords Go.Proofs.YtkebkghhncelpaaW.PrintLast Go.Proofs.YtkebkghhncelpaaW.PrintMore
attribute [local go_sem] max2_int min2_int max_two min_two max_three min_three max_four min_four   -- for this text's walks alone
set_option linter.unusedVariables false
set_option linter.unusedSimpArgs false

/-! ### fullerref01_signed: function 37 -/
mutual
def fullerref01_signed.j0 : Nat → Int → Int → Option (Int × Int)
  | 0, _, _ => none
  | k + 1, x0, x1 => if x0 > 0 then (fullerref01_signed.j1 k x1 true) else (fullerref01_signed.j1 k x1 (decide (x1 > 9223372036854775808)))
def fullerref01_signed.j1 : Nat → Int → Bool → Option (Int × Int)
  | 0, _, _ => none
  | k + 1, x1, x32 => if x32 = true then (some (0, 10)) else (if x1 = 0 then (some (0, 0)) else (some (wrap64 ((wrap64 (-(wrap64 (IntKind.u64.wrap (x1 - 1))))) - 1), 0)))
end
def fullerref01_signed.f (k : Nat) (a0 : Int) (a1 : Int) (a2 : Bool) (a3 : Bool) : Option (Int × Int) := if a3 = true then (if a2 = true then (if (IntKind.u64.wrap (a1 + 1)) = 0 then (fullerref01_signed.j0 k (IntKind.u64.wrap (a0 + 1)) (IntKind.u64.wrap (a1 + 1))) else (fullerref01_signed.j0 k a0 (IntKind.u64.wrap (a1 + 1)))) else (fullerref01_signed.j0 k a0 a1)) else (if a0 > 0 then (some (0, 10)) else (if a1 > 9223372036854775807 then (some (0, 10)) else (some (wrap64 (a1), 0))))
theorem fullerref01_signed.mono_l : ∀ k, (∀ y0 y1, LeO (fullerref01_signed.j0 k y0 y1) (fullerref01_signed.j0 (k + 1) y0 y1)) ∧ (∀ y0 y1, LeO (fullerref01_signed.j1 k y0 y1) (fullerref01_signed.j1 (k + 1) y0 y1))
  | 0 => ⟨fun _ _ r h => by simp [fullerref01_signed.j0] at h, fun _ _ r h => by simp [fullerref01_signed.j1] at h⟩
  | k + 1 => by
    obtain ⟨ih0, ih1⟩ := fullerref01_signed.mono_l k
    refine ⟨?_, ?_⟩
    · intro y0 y1
      unfold fullerref01_signed.j0
      repeat' first
      | (with_reducible exact ih0 _ _)
      | (with_reducible exact ih1 _ _)
      | (with_reducible exact LeO.refl _)
      | (with_reducible exact LeO.none _)
      | (with_reducible refine LeO.ite ?_ ?_)
      | (with_reducible refine LeO.bind ?_ (fun _ => ?_))
      | exact ih0 _ _
      | exact ih1 _ _
      | exact LeO.none _
      | refine LeO.ite ?_ ?_
      | refine LeO.bind ?_ (fun _ => ?_)
    · intro y0 y1
      unfold fullerref01_signed.j1
      repeat' first
      | (with_reducible exact ih0 _ _)
      | (with_reducible exact ih1 _ _)
      | (with_reducible exact LeO.refl _)
      | (with_reducible exact LeO.none _)
      | (with_reducible refine LeO.ite ?_ ?_)
      | (with_reducible refine LeO.bind ?_ (fun _ => ?_))
      | exact ih0 _ _
      | exact ih1 _ _
      | exact LeO.none _
      | refine LeO.ite ?_ ?_
      | refine LeO.bind ?_ (fun _ => ?_)
theorem fullerref01_signed.mono : ∀ a0 a1 a2 a3 k, LeO (fullerref01_signed.f k a0 a1 a2 a3) (fullerref01_signed.f (k + 1) a0 a1 a2 a3) := by
  intro a0 a1 a2 a3 k
  obtain ⟨ih0, ih1⟩ := fullerref01_signed.mono_l k
  unfold fullerref01_signed.f
  repeat' first
      | (with_reducible exact ih0 _ _)
      | (with_reducible exact ih1 _ _)
      | (with_reducible exact LeO.refl _)
      | (with_reducible exact LeO.none _)
      | (with_reducible refine LeO.ite ?_ ?_)
      | (with_reducible refine LeO.bind ?_ (fun _ => ?_))
      | exact ih0 _ _
      | exact ih1 _ _
      | exact LeO.none _
      | refine LeO.ite ?_ ?_
      | refine LeO.bind ?_ (fun _ => ?_)
set_option maxHeartbeats 8000000 in
set_option maxRecDepth 100000 in
theorem fullerref01_signed.calls (k : Nat) (a0 : Int) (a1 : Int) (a2 : Bool) (a3 : Bool) (r1 : Int) (r2 : Int) (w : World) (h : fullerref01_signed.f k a0 a1 a2 a3 = some (r1, r2)) :
    Calls Try.prog 37 #[.int .u64 a0, .int .u64 a1, .bool a2, .bool a3] w fun e w' => e = .returned (.tuple #[.int .i64 r1, .int .i64 r2]) ∧ Drawn0 w w' := by
  have H : (if a3 = true then (if a2 = true then (if (IntKind.u64.wrap (a1 + 1)) = 0 then (fullerref01_signed.j0 k (IntKind.u64.wrap (a0 + 1)) (IntKind.u64.wrap (a1 + 1))) else (fullerref01_signed.j0 k a0 (IntKind.u64.wrap (a1 + 1)))) else (fullerref01_signed.j0 k a0 a1)) else (if a0 > 0 then (some (0, 10)) else (if a1 > 9223372036854775807 then (some (0, 10)) else (some (wrap64 (a1), 0))))) = some (r1, r2) := h
  clear h
  by_cases c5 : a3 = true
  · subst c5
    have H1 : (if a2 = true then (if (IntKind.u64.wrap (a1 + 1)) = 0 then (fullerref01_signed.j0 k (IntKind.u64.wrap (a0 + 1)) (IntKind.u64.wrap (a1 + 1))) else (fullerref01_signed.j0 k a0 (IntKind.u64.wrap (a1 + 1)))) else (fullerref01_signed.j0 k a0 a1)) = some (r1, r2) := by rw [if_pos rfl] at H; exact H
    clear H
    have H := H1
    clear H1
    have HC6 := Aside0.mk H
    clear H
    go_enter Try.func37, Try.ntmps37
    go_upto_if 20 with (fail)
    go_cut [0, 1] (fun v0 v1 wc => ∃ (kq : Nat) (x0_5 : Int) (x1_5 : Int), v0 = .int .u64 x0_5 ∧ v1 = .int .u64 x1_5 ∧ Aside0 (fullerref01_signed.j0 kq x0_5 x1_5 = some (r1, r2)) ∧ Aside0 (kq ≤ k) ∧ Drawn0 w wc)
    case first =>
      have H := HC6.out
      clear HC6
      by_cases c7 : a2 = true
      · subst c7
        have H1 : (if (IntKind.u64.wrap (a1 + 1)) = 0 then (fullerref01_signed.j0 k (IntKind.u64.wrap (a0 + 1)) (IntKind.u64.wrap (a1 + 1))) else (fullerref01_signed.j0 k a0 (IntKind.u64.wrap (a1 + 1)))) = some (r1, r2) := by rw [if_pos rfl] at H; exact H
        clear H
        have H := H1
        clear H1
        by_cases c8 : (IntKind.u64.wrap (a1 + 1)) = 0
        · rw [if_pos c8] at H
          have c8b0 : ((IntKind.u64.wrap (a1 + 1)) == 0) = true := beq_iff_eq.mpr c8
          have c8b1 : ((IntKind.u64.wrap (a1 + 1)) != 0) = false := bne_eq_false_iff_eq.mpr c8
          clear c8
          (first | rw [c8b0] | (simp only [i64_w, i32_w]; rw [c8b0]) | skip)
          have H' := Aside0.mk H
          clear H
          go_wp2
          go_meet
          case rel => exact ⟨_, (IntKind.u64.wrap (a0 + 1)), (IntKind.u64.wrap (a1 + 1)), (by first | rfl | (simp; done) | (simp [*]; done)), (by first | rfl | (simp; done) | (simp [*]; done)), H', ⟨by first | omega | exact Nat.le_refl _⟩, by repeat (first | exact Drawn0.refl _ | apply Drawn0.step)⟩
        · rw [if_neg c8] at H
          have c8b0 : ((IntKind.u64.wrap (a1 + 1)) == 0) = false := beq_eq_false_iff_ne.mpr c8
          have c8b1 : ((IntKind.u64.wrap (a1 + 1)) != 0) = true := bne_iff_ne.mpr c8
          (first | rw [c8b0] | (simp only [i64_w, i32_w]; rw [c8b0]) | skip)
          have H' := Aside0.mk H
          clear H
          go_wp2
          go_meet
          case rel => exact ⟨_, (a0), (IntKind.u64.wrap (a1 + 1)), (by first | rfl | (simp; done) | (simp [*]; done)), (by first | rfl | (simp; done) | (simp [*]; done)), H', ⟨by first | omega | exact Nat.le_refl _⟩, by repeat (first | exact Drawn0.refl _ | apply Drawn0.step)⟩
      · replace c7 := Bool.eq_false_iff.mpr c7
        subst c7
        have H1 : (fullerref01_signed.j0 k a0 a1) = some (r1, r2) := by rw [if_neg (show ¬ (false = true) by decide)] at H; exact H
        clear H
        have H := H1
        clear H1
        have H' := Aside0.mk H
        clear H
        go_wp2
        go_meet
        case rel => exact ⟨_, (a0), (a1), (by first | rfl | (simp; done) | (simp [*]; done)), (by first | rfl | (simp; done) | (simp [*]; done)), H', ⟨by first | omega | exact Nat.le_refl _⟩, by repeat (first | exact Drawn0.refl _ | apply Drawn0.step)⟩
    case rest =>
      clear HC6
      try clear p2
      try clear c3
      try clear c5
      try clear p6
      try clear c7
      try clear c8
      try clear c8b0
      try clear c8b1
      obtain ⟨kq, x0_5, x1_5, rfl, rfl, HA, HJ5, ⟨mc5, rfl⟩⟩ := hcut
      cases kq with
      | zero => exact absurd HA.out (by simp [fullerref01_signed.j0])
      | succ kj5 =>
        have H := HA.out
        clear HA
        simp only [fullerref01_signed.j0] at H
        have HC9 := Aside0.mk H
        clear H
        go_upto_region 9 with (fail)
        go_cut [32] (fun v32 wc => ∃ (kq : Nat) (x32_8 : Bool), v32 = .bool x32_8 ∧ Aside0 (fullerref01_signed.j1 kq x1_5 x32_8 = some (r1, r2)) ∧ Aside0 (kq ≤ kj5) ∧ Drawn0 w wc)
        case first =>
          have H := HC9.out
          clear HC9
          by_cases c10 : x0_5 > 0
          · rw [if_pos c10] at H
            have c10b0 : decide (0 < x0_5) = true := decide_eq_true c10
            clear c10
            (first | rw [c10b0] | (simp only [i64_w, i32_w]; rw [c10b0]) | skip)
            have H' := Aside0.mk H
            clear H
            go_wp2
            go_meet
            case rel => exact ⟨_, (true), (by first | rfl | (simp; done) | (simp [*]; done)), H', ⟨by have := HJ5.out; first | omega | exact Nat.le_refl _⟩, by repeat (first | exact Drawn0.refl _ | apply Drawn0.step)⟩
          · rw [if_neg c10] at H
            have c10b0 : decide (0 < x0_5) = false := decide_eq_false c10
            clear c10
            (first | rw [c10b0] | (simp only [i64_w, i32_w]; rw [c10b0]) | skip)
            have H' := Aside0.mk H
            clear H
            go_wp2
            go_meet
            case rel => exact ⟨_, (decide (x1_5 > 9223372036854775808)), (by first | rfl | (simp; done) | (simp [*]; done)), H', ⟨by have := HJ5.out; first | omega | exact Nat.le_refl _⟩, by repeat (first | exact Drawn0.refl _ | apply Drawn0.step)⟩
        case rest =>
          clear HC9
          try clear c1
          try clear p2
          try clear c3
          try clear c5
          try clear p6
          try clear c7
          try clear c8
          try clear c8b0
          try clear c8b1
          try clear c10
          try clear c10b0
          try clear p2
          try clear p6
          obtain ⟨kq, x32_8, rfl, HA, HJ8, ⟨mc8, rfl⟩⟩ := hcut
          cases kq with
          | zero => exact absurd HA.out (by simp [fullerref01_signed.j1])
          | succ kj8 =>
            have H := HA.out
            clear HA
            simp only [fullerref01_signed.j1] at H
            by_cases c11 : x32_8 = true
            · subst c11
              have H1 : (some (0, 10)) = some (r1, r2) := by rw [if_pos rfl] at H; exact H
              clear H
              have H := H1
              clear H1
              simp only [Option.some.injEq, Prod.mk.injEq] at H
              obtain ⟨rfl, rfl⟩ := H
              go_wp2
              go_ret2
              exact ⟨by first | rfl | (simp; done) | (simp [*]; done), by repeat (first | exact Drawn0.refl _ | apply Drawn0.step)⟩
            · replace c11 := Bool.eq_false_iff.mpr c11
              subst c11
              have H1 : (if x1_5 = 0 then (some (0, 0)) else (some (wrap64 ((wrap64 (-(wrap64 (IntKind.u64.wrap (x1_5 - 1))))) - 1), 0))) = some (r1, r2) := by rw [if_neg (show ¬ (false = true) by decide)] at H; exact H
              clear H
              have H := H1
              clear H1
              by_cases c12 : x1_5 = 0
              · rw [if_pos c12] at H
                have c12b0 : (x1_5 == 0) = true := beq_iff_eq.mpr c12
                have c12b1 : (x1_5 != 0) = false := bne_eq_false_iff_eq.mpr c12
                clear c12
                simp only [Option.some.injEq, Prod.mk.injEq] at H
                obtain ⟨rfl, rfl⟩ := H
                go_wp2
                go_ret2
                exact ⟨by first | rfl | (simp; done) | (simp [*]; done), by repeat (first | exact Drawn0.refl _ | apply Drawn0.step)⟩
              · rw [if_neg c12] at H
                have c12b0 : (x1_5 == 0) = false := beq_eq_false_iff_ne.mpr c12
                have c12b1 : (x1_5 != 0) = true := bne_iff_ne.mpr c12
                simp only [Option.some.injEq, Prod.mk.injEq] at H
                obtain ⟨rfl, rfl⟩ := H
                go_wp2
                go_ret2
                exact ⟨by first | rfl | (simp; done) | (simp [*]; done), by repeat (first | exact Drawn0.refl _ | apply Drawn0.step)⟩
  · replace c5 := Bool.eq_false_iff.mpr c5
    subst c5
    have H1 : (if a0 > 0 then (some (0, 10)) else (if a1 > 9223372036854775807 then (some (0, 10)) else (some (wrap64 (a1), 0)))) = some (r1, r2) := by rw [if_neg (show ¬ (false = true) by decide)] at H; exact H
    clear H
    have H := H1
    clear H1
    by_cases c13 : a0 > 0
    · rw [if_pos c13] at H
      have c13b0 : decide (0 < a0) = true := decide_eq_true c13
      clear c13
      simp only [Option.some.injEq, Prod.mk.injEq] at H
      obtain ⟨rfl, rfl⟩ := H
      go_enter Try.func37, Try.ntmps37
      go_wp2
      go_ret2
      exact ⟨by first | rfl | (simp; done) | (simp [*]; done), by repeat (first | exact Drawn0.refl _ | apply Drawn0.step)⟩
    · rw [if_neg c13] at H
      have c13b0 : decide (0 < a0) = false := decide_eq_false c13
      clear c13
      by_cases c14 : a1 > 9223372036854775807
      · rw [if_pos c14] at H
        have c14b0 : decide (9223372036854775807 < a1) = true := decide_eq_true c14
        clear c14
        simp only [Option.some.injEq, Prod.mk.injEq] at H
        obtain ⟨rfl, rfl⟩ := H
        go_enter Try.func37, Try.ntmps37
        go_wp2
        go_ret2
        exact ⟨by first | rfl | (simp; done) | (simp [*]; done), by repeat (first | exact Drawn0.refl _ | apply Drawn0.step)⟩
      · rw [if_neg c14] at H
        have c14b0 : decide (9223372036854775807 < a1) = false := decide_eq_false c14
        clear c14
        simp only [Option.some.injEq, Prod.mk.injEq] at H
        obtain ⟨rfl, rfl⟩ := H
        go_enter Try.func37, Try.ntmps37
        go_wp2
        go_ret2
        exact ⟨by first | rfl | (simp; done) | (simp [*]; done), by repeat (first | exact Drawn0.refl _ | apply Drawn0.step)⟩

end Go.Proofs.Ytkebkghhncelpaa.A
