/- Lean functions that answer as the Go functions do, and the proofs that they do; no conditions. Written by this session's own driver: a scratch copy of the kit's print with the session's additions (wip/xprint). -/
import Derived.Test.YtkebkghhncelpaaAx0
import Derived.Test.YtkebkghhncelpaaAx12
import Derived.Test.YtkebkghhncelpaaAx13
import Derived.Test.YtkebkghhncelpaaAx14
namespace Go.Proofs.Ytkebkghhncelpaa.A
open Go.RowKit Go.Proofs.YtkebkghhncelpaaW.PrintWords Go.Proofs.YtkebkghhncelpaaW.PrintLast Go.Proofs.YtkebkghhncelpaaW.PrintMore
attribute [local go_sem] max2_int min2_int max_two min_two max_three min_three max_four min_four   -- for this text's walks alone
set_option linter.unusedVariables false
set_option linter.unusedSimpArgs false

/-! ### fullerref01_Div: function 21 -/
def fullerref01_Div.f (k : Nat) (a0 : Int) (a1 : Int) : Option (Int × Int) := if a1 = 0 then (some (0, 11)) else ((fullerref01_size.f a0).bind fun t210 => ((fullerref01_size.f a1).bind fun t211 => ((fullerref01_Parts.f k (IntKind.u64.wrap (Int.tdiv t210 4294967296)) (IntKind.u64.wrap ((Int.tmod t210 4294967296) * 4294967296)) t211).bind fun bt212 => (if ((decide (a0 < 0)) != (decide (a1 < 0))) = true then ((fullerref01_signed.f k bt212.1 bt212.2.1 (decide (bt212.2.2 > 0)) (a0 != 0)).bind fun bt215 => (some (bt215.1, bt215.2))) else ((fullerref01_signed.f k bt212.1 bt212.2.1 (decide (bt212.2.2 > 0)) false).bind fun bt217 => (some (bt217.1, bt217.2)))))))
theorem fullerref01_Div.mono : ∀ a0 a1 k, LeO (fullerref01_Div.f k a0 a1) (fullerref01_Div.f (k + 1) a0 a1) := by
  intro a0 a1 k
  unfold fullerref01_Div.f
  repeat' first
      | (with_reducible exact fullerref01_Parts.mono _ _ _ _)
      | (with_reducible exact fullerref01_signed.mono _ _ _ _ _)
      | (with_reducible exact LeO.refl _)
      | (with_reducible exact LeO.none _)
      | (with_reducible refine LeO.ite ?_ ?_)
      | (with_reducible refine LeO.bind ?_ (fun _ => ?_))
      | exact fullerref01_Parts.mono _ _ _ _
      | exact fullerref01_signed.mono _ _ _ _ _
      | exact LeO.none _
      | refine LeO.ite ?_ ?_
      | refine LeO.bind ?_ (fun _ => ?_)
set_option maxHeartbeats 8000000 in
set_option maxRecDepth 100000 in
theorem fullerref01_Div.calls (k : Nat) (a0 : Int) (a1 : Int) (r1 : Int) (r2 : Int) (w : World) (h : fullerref01_Div.f k a0 a1 = some (r1, r2)) :
    Calls Try.prog 21 #[.int .i64 a0, .int .i64 a1] w fun e w' => e = .returned (.tuple #[.int .i64 r1, .int .i64 r2]) ∧ Drawn0 w w' := by
  have H : (if a1 = 0 then (some (0, 11)) else ((fullerref01_size.f a0).bind fun t210 => ((fullerref01_size.f a1).bind fun t211 => ((fullerref01_Parts.f k (IntKind.u64.wrap (Int.tdiv t210 4294967296)) (IntKind.u64.wrap ((Int.tmod t210 4294967296) * 4294967296)) t211).bind fun bt212 => (if ((decide (a0 < 0)) != (decide (a1 < 0))) = true then ((fullerref01_signed.f k bt212.1 bt212.2.1 (decide (bt212.2.2 > 0)) (a0 != 0)).bind fun bt215 => (some (bt215.1, bt215.2))) else ((fullerref01_signed.f k bt212.1 bt212.2.1 (decide (bt212.2.2 > 0)) false).bind fun bt217 => (some (bt217.1, bt217.2)))))))) = some (r1, r2) := h
  clear h
  by_cases c3 : a1 = 0
  · rw [if_pos c3] at H
    have c3b0 : (a1 == 0) = true := beq_iff_eq.mpr c3
    have c3b1 : (a1 != 0) = false := bne_eq_false_iff_eq.mpr c3
    clear c3
    simp only [Option.some.injEq, Prod.mk.injEq] at H
    obtain ⟨rfl, rfl⟩ := H
    go_enter Try.func21, Try.ntmps21
    go_wp2
    go_ret2
    exact ⟨by first | rfl | (simp; done) | (simp [*]; done), by repeat (first | exact Drawn0.refl _ | apply Drawn0.step)⟩
  · rw [if_neg c3] at H
    have c3b0 : (a1 == 0) = false := beq_eq_false_iff_ne.mpr c3
    have c3b1 : (a1 != 0) = true := bne_iff_ne.mpr c3
    replace H := Option.bind_eq_some_iff.mp H
    obtain ⟨t210, A40, H⟩ := H
    replace H : ((fullerref01_size.f a1).bind fun t211 => ((fullerref01_Parts.f k (IntKind.u64.wrap (Int.tdiv t210 4294967296)) (IntKind.u64.wrap ((Int.tmod t210 4294967296) * 4294967296)) t211).bind fun bt212 => (if ((decide (a0 < 0)) != (decide (a1 < 0))) = true then ((fullerref01_signed.f k bt212.1 bt212.2.1 (decide (bt212.2.2 > 0)) (a0 != 0)).bind fun bt215 => (some (bt215.1, bt215.2))) else ((fullerref01_signed.f k bt212.1 bt212.2.1 (decide (bt212.2.2 > 0)) false).bind fun bt217 => (some (bt217.1, bt217.2)))))) = some (r1, r2) := H
    have A4 := Aside0.mk A40
    clear A40
    replace H := Option.bind_eq_some_iff.mp H
    obtain ⟨t211, A50, H⟩ := H
    replace H : ((fullerref01_Parts.f k (IntKind.u64.wrap (Int.tdiv t210 4294967296)) (IntKind.u64.wrap ((Int.tmod t210 4294967296) * 4294967296)) t211).bind fun bt212 => (if ((decide (a0 < 0)) != (decide (a1 < 0))) = true then ((fullerref01_signed.f k bt212.1 bt212.2.1 (decide (bt212.2.2 > 0)) (a0 != 0)).bind fun bt215 => (some (bt215.1, bt215.2))) else ((fullerref01_signed.f k bt212.1 bt212.2.1 (decide (bt212.2.2 > 0)) false).bind fun bt217 => (some (bt217.1, bt217.2))))) = some (r1, r2) := H
    have A5 := Aside0.mk A50
    clear A50
    replace H := Option.bind_eq_some_iff.mp H
    obtain ⟨⟨t212, t213, t214⟩, A60, H⟩ := H
    replace H : (if ((decide (a0 < 0)) != (decide (a1 < 0))) = true then ((fullerref01_signed.f k t212 t213 (decide (t214 > 0)) (a0 != 0)).bind fun bt215 => (some (bt215.1, bt215.2))) else ((fullerref01_signed.f k t212 t213 (decide (t214 > 0)) false).bind fun bt217 => (some (bt217.1, bt217.2)))) = some (r1, r2) := H
    have A6 := Aside0.mk A60
    clear A60
    by_cases c7 : ((decide (a0 < 0)) != (decide (a1 < 0))) = true
    · rw [if_pos c7] at H
      have c7b0 : ((decide (a0 < 0)) != (decide (a1 < 0))) = true := c7
      (try (have c7b1 : decide ((decide (a0 < 0)) = (decide (a1 < 0))) = false := by simpa using c7))
      (try (have c7b2 : ((decide (a0 < 0)) == (decide (a1 < 0))) = false := by simpa using c7))
      (try (have c7b3 : ¬ ((decide (a0 < 0)) = (decide (a1 < 0))) := by simpa using c7))
      clear c7
      replace H := Option.bind_eq_some_iff.mp H
      obtain ⟨⟨t215, t216⟩, A80, H⟩ := H
      replace H : (some (t215, t216)) = some (r1, r2) := H
      have A8 := Aside0.mk A80
      clear A80
      simp only [Option.some.injEq, Prod.mk.injEq] at H
      obtain ⟨rfl, rfl⟩ := H
      go_enter Try.func21, Try.ntmps21
      go_wp2_with (first | ((with_reducible refine gate_callee (f := 36) rfl ?_); refine goesL_ (some 13) rfl rfl Try.func36 (by kernel_rfl) rfl #[.int .i64 a0] rfl (by (try simp only [List.map_toArray, List.map_cons, List.map_nil]); first | done | rfl | (simp only [List.length_drop, List.length_take]; rfl)) ?_; (with_reducible refine (fullerref01_size.calls a0 t210 _ A4.out).mono ?_); rintro e w' ⟨rfl, ⟨nd, rfl⟩⟩; refine ⟨_, rfl, ?_⟩) | ((with_reducible refine gate_callee (f := 36) rfl ?_); refine goesL_ (some 21) rfl rfl Try.func36 (by kernel_rfl) rfl #[.int .i64 a1] rfl (by (try simp only [List.map_toArray, List.map_cons, List.map_nil]); first | done | rfl | (simp only [List.length_drop, List.length_take]; rfl)) ?_; (with_reducible refine (fullerref01_size.calls a1 t211 _ A5.out).mono ?_); rintro e w' ⟨rfl, ⟨nd, rfl⟩⟩; refine ⟨_, rfl, ?_⟩) | ((with_reducible refine gate_callee (f := 38) rfl ?_); refine goesL_ (some 22) rfl rfl Try.func38 (by kernel_rfl) rfl #[.int .u64 (IntKind.u64.wrap (Int.tdiv t210 4294967296)), .int .u64 (IntKind.u64.wrap ((Int.tmod t210 4294967296) * 4294967296)), .int .u64 t211] rfl (by (try simp only [List.map_toArray, List.map_cons, List.map_nil]); first | done | rfl | (simp only [List.length_drop, List.length_take]; rfl)) ?_; (with_reducible refine (fullerref01_Parts.calls k (IntKind.u64.wrap (Int.tdiv t210 4294967296)) (IntKind.u64.wrap ((Int.tmod t210 4294967296) * 4294967296)) t211 t212 t213 t214 _ A6.out).mono ?_); rintro e w' ⟨rfl, ⟨nd, rfl⟩⟩; refine ⟨_, rfl, ?_⟩) | ((with_reducible refine gate_callee (f := 37) rfl ?_); refine goesL_ (some 39) rfl rfl Try.func37 (by kernel_rfl) rfl #[.int .u64 t212, .int .u64 t213, .bool (decide (t214 > 0)), .bool (a0 != 0)] rfl (by (try simp only [List.map_toArray, List.map_cons, List.map_nil]); first | done | rfl | (simp only [List.length_drop, List.length_take]; rfl)) ?_; (with_reducible refine (fullerref01_signed.calls k t212 t213 (decide (t214 > 0)) (a0 != 0) t215 t216 _ A8.out).mono ?_); rintro e w' ⟨rfl, ⟨nd, rfl⟩⟩; refine ⟨_, rfl, ?_⟩))
      go_ret2
      exact ⟨by first | rfl | (simp; done) | (simp [*]; done), by repeat (first | exact Drawn0.refl _ | apply Drawn0.step)⟩
    · rw [if_neg c7] at H
      have c7b0 : ((decide (a0 < 0)) != (decide (a1 < 0))) = false := by simpa using c7
      (try (have c7b1 : decide ((decide (a0 < 0)) = (decide (a1 < 0))) = true := by simpa using c7))
      (try (have c7b2 : ((decide (a0 < 0)) == (decide (a1 < 0))) = true := by simpa using c7))
      clear c7
      replace H := Option.bind_eq_some_iff.mp H
      obtain ⟨⟨t217, t218⟩, A90, H⟩ := H
      replace H : (some (t217, t218)) = some (r1, r2) := H
      have A9 := Aside0.mk A90
      clear A90
      simp only [Option.some.injEq, Prod.mk.injEq] at H
      obtain ⟨rfl, rfl⟩ := H
      go_enter Try.func21, Try.ntmps21
      go_wp2_with (first | ((with_reducible refine gate_callee (f := 36) rfl ?_); refine goesL_ (some 13) rfl rfl Try.func36 (by kernel_rfl) rfl #[.int .i64 a0] rfl (by (try simp only [List.map_toArray, List.map_cons, List.map_nil]); first | done | rfl | (simp only [List.length_drop, List.length_take]; rfl)) ?_; (with_reducible refine (fullerref01_size.calls a0 t210 _ A4.out).mono ?_); rintro e w' ⟨rfl, ⟨nd, rfl⟩⟩; refine ⟨_, rfl, ?_⟩) | ((with_reducible refine gate_callee (f := 36) rfl ?_); refine goesL_ (some 21) rfl rfl Try.func36 (by kernel_rfl) rfl #[.int .i64 a1] rfl (by (try simp only [List.map_toArray, List.map_cons, List.map_nil]); first | done | rfl | (simp only [List.length_drop, List.length_take]; rfl)) ?_; (with_reducible refine (fullerref01_size.calls a1 t211 _ A5.out).mono ?_); rintro e w' ⟨rfl, ⟨nd, rfl⟩⟩; refine ⟨_, rfl, ?_⟩) | ((with_reducible refine gate_callee (f := 38) rfl ?_); refine goesL_ (some 22) rfl rfl Try.func38 (by kernel_rfl) rfl #[.int .u64 (IntKind.u64.wrap (Int.tdiv t210 4294967296)), .int .u64 (IntKind.u64.wrap ((Int.tmod t210 4294967296) * 4294967296)), .int .u64 t211] rfl (by (try simp only [List.map_toArray, List.map_cons, List.map_nil]); first | done | rfl | (simp only [List.length_drop, List.length_take]; rfl)) ?_; (with_reducible refine (fullerref01_Parts.calls k (IntKind.u64.wrap (Int.tdiv t210 4294967296)) (IntKind.u64.wrap ((Int.tmod t210 4294967296) * 4294967296)) t211 t212 t213 t214 _ A6.out).mono ?_); rintro e w' ⟨rfl, ⟨nd, rfl⟩⟩; refine ⟨_, rfl, ?_⟩) | ((with_reducible refine gate_callee (f := 37) rfl ?_); refine goesL_ (some 39) rfl rfl Try.func37 (by kernel_rfl) rfl #[.int .u64 t212, .int .u64 t213, .bool (decide (t214 > 0)), .bool false] rfl (by (try simp only [List.map_toArray, List.map_cons, List.map_nil]); first | done | rfl | (simp only [List.length_drop, List.length_take]; rfl)) ?_; (with_reducible refine (fullerref01_signed.calls k t212 t213 (decide (t214 > 0)) false t217 t218 _ A9.out).mono ?_); rintro e w' ⟨rfl, ⟨nd, rfl⟩⟩; refine ⟨_, rfl, ?_⟩))
      go_ret2
      exact ⟨by first | rfl | (simp; done) | (simp [*]; done), by repeat (first | exact Drawn0.refl _ | apply Drawn0.step)⟩

/-! ### fullerref01_Neg: function 22 -/
def fullerref01_Neg.f (a0 : Int) : Option (Int × Int) := if a0 = (-9223372036854775808) then (some (0, 10)) else (some (wrap64 (-a0), 0))
set_option maxHeartbeats 8000000 in
set_option maxRecDepth 100000 in
theorem fullerref01_Neg.calls (a0 : Int) (r1 : Int) (r2 : Int) (w : World) (h : fullerref01_Neg.f a0 = some (r1, r2)) :
    Calls Try.prog 22 #[.int .i64 a0] w fun e w' => e = .returned (.tuple #[.int .i64 r1, .int .i64 r2]) ∧ Drawn0 w w' := by
  have H : (if a0 = (-9223372036854775808) then (some (0, 10)) else (some (wrap64 (-a0), 0))) = some (r1, r2) := h
  clear h
  by_cases c2 : a0 = (-9223372036854775808)
  · rw [if_pos c2] at H
    have c2b0 : (a0 == (-9223372036854775808)) = true := beq_iff_eq.mpr c2
    have c2b1 : (a0 != (-9223372036854775808)) = false := bne_eq_false_iff_eq.mpr c2
    clear c2
    simp only [Option.some.injEq, Prod.mk.injEq] at H
    obtain ⟨rfl, rfl⟩ := H
    go_enter Try.func22, Try.ntmps22
    go_wp2
    go_ret2
    exact ⟨by first | rfl | (simp; done) | (simp [*]; done), by repeat (first | exact Drawn0.refl _ | apply Drawn0.step)⟩
  · rw [if_neg c2] at H
    have c2b0 : (a0 == (-9223372036854775808)) = false := beq_eq_false_iff_ne.mpr c2
    have c2b1 : (a0 != (-9223372036854775808)) = true := bne_iff_ne.mpr c2
    simp only [Option.some.injEq, Prod.mk.injEq] at H
    obtain ⟨rfl, rfl⟩ := H
    go_enter Try.func22, Try.ntmps22
    go_wp2
    go_ret2
    exact ⟨by first | rfl | (simp; done) | (simp [*]; done), by repeat (first | exact Drawn0.refl _ | apply Drawn0.step)⟩

/-! ### fullerref01_Sqrt: function 23 -/
def fullerref01_Sqrt.l0 : Nat → Int → Int → Int → Option (Int × Int)
  | 0, _, _, _ => none
  | k + 1, x4, x5, x6 => if x6 > 0 then ((fullerref01_Wide.f (IntKind.u64.wrap (x5 + x6)) (IntKind.u64.wrap (x5 + x6))).bind fun bt219 => (if bt219.1 < (IntKind.u64.wrap (Int.tdiv x4 4294967296)) then (fullerref01_Sqrt.l0 k x4 (IntKind.u64.wrap (x5 + x6)) (IntKind.u64.wrap (Int.tdiv x6 2))) else (if bt219.1 = (IntKind.u64.wrap (Int.tdiv x4 4294967296)) then (if bt219.2 ≤ (IntKind.u64.wrap ((Int.tmod x4 4294967296) * 4294967296)) then (fullerref01_Sqrt.l0 k x4 (IntKind.u64.wrap (x5 + x6)) (IntKind.u64.wrap (Int.tdiv x6 2))) else (fullerref01_Sqrt.l0 k x4 x5 (IntKind.u64.wrap (Int.tdiv x6 2)))) else (fullerref01_Sqrt.l0 k x4 x5 (IntKind.u64.wrap (Int.tdiv x6 2)))))) else (some (wrap64 (x5), 0))
def fullerref01_Sqrt.f (k : Nat) (a0 : Int) : Option (Int × Int) := if a0 < 0 then (some (0, 12)) else (fullerref01_Sqrt.l0 k (IntKind.u64.wrap (a0)) 0 140737488355328)
theorem fullerref01_Sqrt.mono_l : ∀ k, (∀ y0 y1 y2, LeO (fullerref01_Sqrt.l0 k y0 y1 y2) (fullerref01_Sqrt.l0 (k + 1) y0 y1 y2))
  | 0 => fun _ _ _ r h => by simp [fullerref01_Sqrt.l0] at h
  | k + 1 => by
    have ih0 := fullerref01_Sqrt.mono_l k
    · intro y0 y1 y2
      unfold fullerref01_Sqrt.l0
      repeat' first
      | (with_reducible exact ih0 _ _ _)
      | (with_reducible exact LeO.refl _)
      | (with_reducible exact LeO.none _)
      | (with_reducible refine LeO.ite ?_ ?_)
      | (with_reducible refine LeO.bind ?_ (fun _ => ?_))
      | exact ih0 _ _ _
      | exact LeO.none _
      | refine LeO.ite ?_ ?_
      | refine LeO.bind ?_ (fun _ => ?_)
theorem fullerref01_Sqrt.mono : ∀ a0 k, LeO (fullerref01_Sqrt.f k a0) (fullerref01_Sqrt.f (k + 1) a0) := by
  intro a0 k
  have ih0 := fullerref01_Sqrt.mono_l k
  unfold fullerref01_Sqrt.f
  repeat' first
      | (with_reducible exact ih0 _ _ _)
      | (with_reducible exact LeO.refl _)
      | (with_reducible exact LeO.none _)
      | (with_reducible refine LeO.ite ?_ ?_)
      | (with_reducible refine LeO.bind ?_ (fun _ => ?_))
      | exact ih0 _ _ _
      | exact LeO.none _
      | refine LeO.ite ?_ ?_
      | refine LeO.bind ?_ (fun _ => ?_)
set_option maxHeartbeats 8000000 in
set_option maxRecDepth 100000 in
theorem fullerref01_Sqrt.calls (k : Nat) (a0 : Int) (r1 : Int) (r2 : Int) (w : World) (h : fullerref01_Sqrt.f k a0 = some (r1, r2)) :
    Calls Try.prog 23 #[.int .i64 a0] w fun e w' => e = .returned (.tuple #[.int .i64 r1, .int .i64 r2]) ∧ Drawn0 w w' := by
  have H : (if a0 < 0 then (some (0, 12)) else (fullerref01_Sqrt.l0 k (IntKind.u64.wrap (a0)) 0 140737488355328)) = some (r1, r2) := h
  clear h
  by_cases c2 : a0 < 0
  · rw [if_pos c2] at H
    have c2b0 : decide (a0 < 0) = true := decide_eq_true c2
    clear c2
    simp only [Option.some.injEq, Prod.mk.injEq] at H
    obtain ⟨rfl, rfl⟩ := H
    go_enter Try.func23, Try.ntmps23
    go_wp2
    go_ret2
    exact ⟨by first | rfl | (simp; done) | (simp [*]; done), by repeat (first | exact Drawn0.refl _ | apply Drawn0.step)⟩
  · rw [if_neg c2] at H
    have c2b0 : decide (a0 < 0) = false := decide_eq_false c2
    clear c2
    have H' := Aside0.mk H
    clear H
    go_enter Try.func23, Try.ntmps23
    go_wp2
    go_loopg [5, 6] k (fun kq v5 v6 w' => ∃ (x5_1 : Int) (x6_1 : Int), v5 = .int .u64 x5_1 ∧ v6 = .int .u64 x6_1 ∧ Aside0 (fullerref01_Sqrt.l0 kq (IntKind.u64.wrap (a0)) x5_1 x6_1 = some (r1, r2)) ∧ Aside0 (kq ≤ k) ∧ Drawn0 w w')
    case atStart => exact ⟨(0), (140737488355328), (by first | rfl | (simp; done) | (simp [*]; done)), (by first | rfl | (simp; done) | (simp [*]; done)), H', ⟨Nat.le_refl _⟩, by repeat (first | exact Drawn0.refl _ | apply Drawn0.step)⟩
    case round =>
      clear H'
      try clear c2
      try clear c2b0
      try clear p2
      obtain ⟨x5_1, x6_1, rfl, rfl, HA, HK1, ⟨m1, rfl⟩⟩ := hrel
      cases gk with
      | zero => exact absurd HA.out (by simp [fullerref01_Sqrt.l0])
      | succ k1 =>
        have H := HA.out
        clear HA
        simp only [fullerref01_Sqrt.l0] at H
        by_cases c3 : x6_1 > 0
        · rw [if_pos c3] at H
          have c3b0 : decide (0 < x6_1) = true := decide_eq_true c3
          clear c3
          replace H := Option.bind_eq_some_iff.mp H
          obtain ⟨⟨t219, t220⟩, A40, H⟩ := H
          replace H : (if t219 < (IntKind.u64.wrap (Int.tdiv (IntKind.u64.wrap (a0)) 4294967296)) then (fullerref01_Sqrt.l0 k1 (IntKind.u64.wrap (a0)) (IntKind.u64.wrap (x5_1 + x6_1)) (IntKind.u64.wrap (Int.tdiv x6_1 2))) else (if t219 = (IntKind.u64.wrap (Int.tdiv (IntKind.u64.wrap (a0)) 4294967296)) then (if t220 ≤ (IntKind.u64.wrap ((Int.tmod (IntKind.u64.wrap (a0)) 4294967296) * 4294967296)) then (fullerref01_Sqrt.l0 k1 (IntKind.u64.wrap (a0)) (IntKind.u64.wrap (x5_1 + x6_1)) (IntKind.u64.wrap (Int.tdiv x6_1 2))) else (fullerref01_Sqrt.l0 k1 (IntKind.u64.wrap (a0)) x5_1 (IntKind.u64.wrap (Int.tdiv x6_1 2)))) else (fullerref01_Sqrt.l0 k1 (IntKind.u64.wrap (a0)) x5_1 (IntKind.u64.wrap (Int.tdiv x6_1 2))))) = some (r1, r2) := H
          have A4 := Aside0.mk A40
          clear A40
          by_cases c5 : t219 < (IntKind.u64.wrap (Int.tdiv (IntKind.u64.wrap (a0)) 4294967296))
          · rw [if_pos c5] at H
            have c5b0 : decide (t219 < (IntKind.u64.wrap (Int.tdiv (IntKind.u64.wrap (a0)) 4294967296))) = true := decide_eq_true c5
            clear c5
            have H' := Aside0.mk H
            clear H
            go_wp2_with (first | ((with_reducible refine gate_callee (f := 35) rfl ?_); refine goesL_ (some 24) rfl rfl Try.func35 (by kernel_rfl) rfl #[.int .u64 (IntKind.u64.wrap (x5_1 + x6_1)), .int .u64 (IntKind.u64.wrap (x5_1 + x6_1))] rfl (by (try simp only [List.map_toArray, List.map_cons, List.map_nil]); first | done | rfl | (simp only [List.length_drop, List.length_take]; rfl)) ?_; (with_reducible refine (fullerref01_Wide.calls (IntKind.u64.wrap (x5_1 + x6_1)) (IntKind.u64.wrap (x5_1 + x6_1)) t219 t220 _ A4.out).mono ?_); rintro e w' ⟨rfl, ⟨nd, rfl⟩⟩; refine ⟨_, rfl, ?_⟩))
            go_roundg k1
            case measure => have := HK1.out; omega
            case rel => exact ⟨(IntKind.u64.wrap (x5_1 + x6_1)), (IntKind.u64.wrap (Int.tdiv x6_1 2)), (by first | rfl | (simp; done) | (simp [*]; done)), (by first | rfl | (simp; done) | (simp [*]; done)), H', ⟨by have := HK1.out; omega⟩, by repeat (first | exact Drawn0.refl _ | apply Drawn0.step)⟩
          · rw [if_neg c5] at H
            have c5b0 : decide (t219 < (IntKind.u64.wrap (Int.tdiv (IntKind.u64.wrap (a0)) 4294967296))) = false := decide_eq_false c5
            clear c5
            by_cases c6 : t219 = (IntKind.u64.wrap (Int.tdiv (IntKind.u64.wrap (a0)) 4294967296))
            · rw [if_pos c6] at H
              have c6b0 : (t219 == (IntKind.u64.wrap (Int.tdiv (IntKind.u64.wrap (a0)) 4294967296))) = true := beq_iff_eq.mpr c6
              have c6b1 : (t219 != (IntKind.u64.wrap (Int.tdiv (IntKind.u64.wrap (a0)) 4294967296))) = false := bne_eq_false_iff_eq.mpr c6
              clear c6
              by_cases c7 : t220 ≤ (IntKind.u64.wrap ((Int.tmod (IntKind.u64.wrap (a0)) 4294967296) * 4294967296))
              · rw [if_pos c7] at H
                have c7b0 : decide (t220 ≤ (IntKind.u64.wrap ((Int.tmod (IntKind.u64.wrap (a0)) 4294967296) * 4294967296))) = true := decide_eq_true c7
                clear c7
                have H' := Aside0.mk H
                clear H
                go_wp2_with (first | ((with_reducible refine gate_callee (f := 35) rfl ?_); refine goesL_ (some 24) rfl rfl Try.func35 (by kernel_rfl) rfl #[.int .u64 (IntKind.u64.wrap (x5_1 + x6_1)), .int .u64 (IntKind.u64.wrap (x5_1 + x6_1))] rfl (by (try simp only [List.map_toArray, List.map_cons, List.map_nil]); first | done | rfl | (simp only [List.length_drop, List.length_take]; rfl)) ?_; (with_reducible refine (fullerref01_Wide.calls (IntKind.u64.wrap (x5_1 + x6_1)) (IntKind.u64.wrap (x5_1 + x6_1)) t219 t220 _ A4.out).mono ?_); rintro e w' ⟨rfl, ⟨nd, rfl⟩⟩; refine ⟨_, rfl, ?_⟩))
                go_roundg k1
                case measure => have := HK1.out; omega
                case rel => exact ⟨(IntKind.u64.wrap (x5_1 + x6_1)), (IntKind.u64.wrap (Int.tdiv x6_1 2)), (by first | rfl | (simp; done) | (simp [*]; done)), (by first | rfl | (simp; done) | (simp [*]; done)), H', ⟨by have := HK1.out; omega⟩, by repeat (first | exact Drawn0.refl _ | apply Drawn0.step)⟩
              · rw [if_neg c7] at H
                have c7b0 : decide (t220 ≤ (IntKind.u64.wrap ((Int.tmod (IntKind.u64.wrap (a0)) 4294967296) * 4294967296))) = false := decide_eq_false c7
                clear c7
                have H' := Aside0.mk H
                clear H
                go_wp2_with (first | ((with_reducible refine gate_callee (f := 35) rfl ?_); refine goesL_ (some 24) rfl rfl Try.func35 (by kernel_rfl) rfl #[.int .u64 (IntKind.u64.wrap (x5_1 + x6_1)), .int .u64 (IntKind.u64.wrap (x5_1 + x6_1))] rfl (by (try simp only [List.map_toArray, List.map_cons, List.map_nil]); first | done | rfl | (simp only [List.length_drop, List.length_take]; rfl)) ?_; (with_reducible refine (fullerref01_Wide.calls (IntKind.u64.wrap (x5_1 + x6_1)) (IntKind.u64.wrap (x5_1 + x6_1)) t219 t220 _ A4.out).mono ?_); rintro e w' ⟨rfl, ⟨nd, rfl⟩⟩; refine ⟨_, rfl, ?_⟩))
                go_roundg k1
                case measure => have := HK1.out; omega
                case rel => exact ⟨(x5_1), (IntKind.u64.wrap (Int.tdiv x6_1 2)), (by first | rfl | (simp; done) | (simp [*]; done)), (by first | rfl | (simp; done) | (simp [*]; done)), H', ⟨by have := HK1.out; omega⟩, by repeat (first | exact Drawn0.refl _ | apply Drawn0.step)⟩
            · rw [if_neg c6] at H
              have c6b0 : (t219 == (IntKind.u64.wrap (Int.tdiv (IntKind.u64.wrap (a0)) 4294967296))) = false := beq_eq_false_iff_ne.mpr c6
              have c6b1 : (t219 != (IntKind.u64.wrap (Int.tdiv (IntKind.u64.wrap (a0)) 4294967296))) = true := bne_iff_ne.mpr c6
              have H' := Aside0.mk H
              clear H
              go_wp2_with (first | ((with_reducible refine gate_callee (f := 35) rfl ?_); refine goesL_ (some 24) rfl rfl Try.func35 (by kernel_rfl) rfl #[.int .u64 (IntKind.u64.wrap (x5_1 + x6_1)), .int .u64 (IntKind.u64.wrap (x5_1 + x6_1))] rfl (by (try simp only [List.map_toArray, List.map_cons, List.map_nil]); first | done | rfl | (simp only [List.length_drop, List.length_take]; rfl)) ?_; (with_reducible refine (fullerref01_Wide.calls (IntKind.u64.wrap (x5_1 + x6_1)) (IntKind.u64.wrap (x5_1 + x6_1)) t219 t220 _ A4.out).mono ?_); rintro e w' ⟨rfl, ⟨nd, rfl⟩⟩; refine ⟨_, rfl, ?_⟩))
              go_roundg k1
              case measure => have := HK1.out; omega
              case rel => exact ⟨(x5_1), (IntKind.u64.wrap (Int.tdiv x6_1 2)), (by first | rfl | (simp; done) | (simp [*]; done)), (by first | rfl | (simp; done) | (simp [*]; done)), H', ⟨by have := HK1.out; omega⟩, by repeat (first | exact Drawn0.refl _ | apply Drawn0.step)⟩
        · rw [if_neg c3] at H
          have c3b0 : decide (0 < x6_1) = false := decide_eq_false c3
          clear c3
          simp only [Option.some.injEq, Prod.mk.injEq] at H
          obtain ⟨rfl, rfl⟩ := H
          go_wp2
          go_ret2
          exact ⟨by first | rfl | (simp; done) | (simp [*]; done), by repeat (first | exact Drawn0.refl _ | apply Drawn0.step)⟩

end Go.Proofs.Ytkebkghhncelpaa.A
