/- Lean functions that answer as the Go functions do, and the proofs that they do; no conditions. Written by this session's own driver: a scratch copy of the kit's print with the session's additions (wip/xprint). -/
import Derived.Test.YtkebkghhncelpaaAx0
import Derived.Test.YtkebkghhncelpaaAx12
import Derived.Test.YtkebkghhncelpaaAx13
namespace Go.Proofs.Ytkebkghhncelpaa.A
open Go.RowKit Go.Proofs.YtkebkghhncelpaaW.PrintWords Go.Proofs.YtkebkghhncelpaaW.PrintLast Go.Proofs.YtkebkghhncelpaaW.PrintMore
attribute [local go_sem] max2_int min2_int max_two min_two max_three min_three max_four min_four   -- for this text's walks alone
set_option linter.unusedVariables false
set_option linter.unusedSimpArgs false

/-! ### fullerref01_Mul: function 20 -/
def fullerref01_Mul.f (k : Nat) (a0 : Int) (a1 : Int) : Option (Int × Int) := (fullerref01_size.f a0).bind fun t200 => ((fullerref01_size.f a1).bind fun t201 => ((fullerref01_Wide.f t200 t201).bind fun bt202 => (if ((decide (a0 < 0)) != (decide (a1 < 0))) = true then (if a0 = 0 then ((fullerref01_signed.f k (IntKind.u64.wrap (Int.tdiv bt202.1 4294967296)) (IntKind.u64.wrap ((IntKind.u64.wrap ((Int.tmod bt202.1 4294967296) * 4294967296)) + (IntKind.u64.wrap (Int.tdiv bt202.2 4294967296)))) (decide ((Int.tmod bt202.2 4294967296) > 0)) false).bind fun bt204 => (some (bt204.1, bt204.2))) else ((fullerref01_signed.f k (IntKind.u64.wrap (Int.tdiv bt202.1 4294967296)) (IntKind.u64.wrap ((IntKind.u64.wrap ((Int.tmod bt202.1 4294967296) * 4294967296)) + (IntKind.u64.wrap (Int.tdiv bt202.2 4294967296)))) (decide ((Int.tmod bt202.2 4294967296) > 0)) (a1 != 0)).bind fun bt206 => (some (bt206.1, bt206.2)))) else ((fullerref01_signed.f k (IntKind.u64.wrap (Int.tdiv bt202.1 4294967296)) (IntKind.u64.wrap ((IntKind.u64.wrap ((Int.tmod bt202.1 4294967296) * 4294967296)) + (IntKind.u64.wrap (Int.tdiv bt202.2 4294967296)))) (decide ((Int.tmod bt202.2 4294967296) > 0)) false).bind fun bt208 => (some (bt208.1, bt208.2))))))
theorem fullerref01_Mul.mono : ∀ a0 a1 k, LeO (fullerref01_Mul.f k a0 a1) (fullerref01_Mul.f (k + 1) a0 a1) := by
  intro a0 a1 k
  unfold fullerref01_Mul.f
  repeat' first
      | (with_reducible exact fullerref01_signed.mono _ _ _ _ _)
      | (with_reducible exact LeO.refl _)
      | (with_reducible exact LeO.none _)
      | (with_reducible refine LeO.ite ?_ ?_)
      | (with_reducible refine LeO.bind ?_ (fun _ => ?_))
      | exact fullerref01_signed.mono _ _ _ _ _
      | exact LeO.none _
      | refine LeO.ite ?_ ?_
      | refine LeO.bind ?_ (fun _ => ?_)
set_option maxHeartbeats 8000000 in
set_option maxRecDepth 100000 in
theorem fullerref01_Mul.calls (k : Nat) (a0 : Int) (a1 : Int) (r1 : Int) (r2 : Int) (w : World) (h : fullerref01_Mul.f k a0 a1 = some (r1, r2)) :
    Calls Try.prog 20 #[.int .i64 a0, .int .i64 a1] w fun e w' => e = .returned (.tuple #[.int .i64 r1, .int .i64 r2]) ∧ Drawn0 w w' := by
  have H : ((fullerref01_size.f a0).bind fun t200 => ((fullerref01_size.f a1).bind fun t201 => ((fullerref01_Wide.f t200 t201).bind fun bt202 => (if ((decide (a0 < 0)) != (decide (a1 < 0))) = true then (if a0 = 0 then ((fullerref01_signed.f k (IntKind.u64.wrap (Int.tdiv bt202.1 4294967296)) (IntKind.u64.wrap ((IntKind.u64.wrap ((Int.tmod bt202.1 4294967296) * 4294967296)) + (IntKind.u64.wrap (Int.tdiv bt202.2 4294967296)))) (decide ((Int.tmod bt202.2 4294967296) > 0)) false).bind fun bt204 => (some (bt204.1, bt204.2))) else ((fullerref01_signed.f k (IntKind.u64.wrap (Int.tdiv bt202.1 4294967296)) (IntKind.u64.wrap ((IntKind.u64.wrap ((Int.tmod bt202.1 4294967296) * 4294967296)) + (IntKind.u64.wrap (Int.tdiv bt202.2 4294967296)))) (decide ((Int.tmod bt202.2 4294967296) > 0)) (a1 != 0)).bind fun bt206 => (some (bt206.1, bt206.2)))) else ((fullerref01_signed.f k (IntKind.u64.wrap (Int.tdiv bt202.1 4294967296)) (IntKind.u64.wrap ((IntKind.u64.wrap ((Int.tmod bt202.1 4294967296) * 4294967296)) + (IntKind.u64.wrap (Int.tdiv bt202.2 4294967296)))) (decide ((Int.tmod bt202.2 4294967296) > 0)) false).bind fun bt208 => (some (bt208.1, bt208.2))))))) = some (r1, r2) := h
  clear h
  replace H := Option.bind_eq_some_iff.mp H
  obtain ⟨t200, A30, H⟩ := H
  replace H : ((fullerref01_size.f a1).bind fun t201 => ((fullerref01_Wide.f t200 t201).bind fun bt202 => (if ((decide (a0 < 0)) != (decide (a1 < 0))) = true then (if a0 = 0 then ((fullerref01_signed.f k (IntKind.u64.wrap (Int.tdiv bt202.1 4294967296)) (IntKind.u64.wrap ((IntKind.u64.wrap ((Int.tmod bt202.1 4294967296) * 4294967296)) + (IntKind.u64.wrap (Int.tdiv bt202.2 4294967296)))) (decide ((Int.tmod bt202.2 4294967296) > 0)) false).bind fun bt204 => (some (bt204.1, bt204.2))) else ((fullerref01_signed.f k (IntKind.u64.wrap (Int.tdiv bt202.1 4294967296)) (IntKind.u64.wrap ((IntKind.u64.wrap ((Int.tmod bt202.1 4294967296) * 4294967296)) + (IntKind.u64.wrap (Int.tdiv bt202.2 4294967296)))) (decide ((Int.tmod bt202.2 4294967296) > 0)) (a1 != 0)).bind fun bt206 => (some (bt206.1, bt206.2)))) else ((fullerref01_signed.f k (IntKind.u64.wrap (Int.tdiv bt202.1 4294967296)) (IntKind.u64.wrap ((IntKind.u64.wrap ((Int.tmod bt202.1 4294967296) * 4294967296)) + (IntKind.u64.wrap (Int.tdiv bt202.2 4294967296)))) (decide ((Int.tmod bt202.2 4294967296) > 0)) false).bind fun bt208 => (some (bt208.1, bt208.2)))))) = some (r1, r2) := H
  have A3 := Aside0.mk A30
  clear A30
  replace H := Option.bind_eq_some_iff.mp H
  obtain ⟨t201, A40, H⟩ := H
  replace H : ((fullerref01_Wide.f t200 t201).bind fun bt202 => (if ((decide (a0 < 0)) != (decide (a1 < 0))) = true then (if a0 = 0 then ((fullerref01_signed.f k (IntKind.u64.wrap (Int.tdiv bt202.1 4294967296)) (IntKind.u64.wrap ((IntKind.u64.wrap ((Int.tmod bt202.1 4294967296) * 4294967296)) + (IntKind.u64.wrap (Int.tdiv bt202.2 4294967296)))) (decide ((Int.tmod bt202.2 4294967296) > 0)) false).bind fun bt204 => (some (bt204.1, bt204.2))) else ((fullerref01_signed.f k (IntKind.u64.wrap (Int.tdiv bt202.1 4294967296)) (IntKind.u64.wrap ((IntKind.u64.wrap ((Int.tmod bt202.1 4294967296) * 4294967296)) + (IntKind.u64.wrap (Int.tdiv bt202.2 4294967296)))) (decide ((Int.tmod bt202.2 4294967296) > 0)) (a1 != 0)).bind fun bt206 => (some (bt206.1, bt206.2)))) else ((fullerref01_signed.f k (IntKind.u64.wrap (Int.tdiv bt202.1 4294967296)) (IntKind.u64.wrap ((IntKind.u64.wrap ((Int.tmod bt202.1 4294967296) * 4294967296)) + (IntKind.u64.wrap (Int.tdiv bt202.2 4294967296)))) (decide ((Int.tmod bt202.2 4294967296) > 0)) false).bind fun bt208 => (some (bt208.1, bt208.2))))) = some (r1, r2) := H
  have A4 := Aside0.mk A40
  clear A40
  replace H := Option.bind_eq_some_iff.mp H
  obtain ⟨⟨t202, t203⟩, A50, H⟩ := H
  replace H : (if ((decide (a0 < 0)) != (decide (a1 < 0))) = true then (if a0 = 0 then ((fullerref01_signed.f k (IntKind.u64.wrap (Int.tdiv t202 4294967296)) (IntKind.u64.wrap ((IntKind.u64.wrap ((Int.tmod t202 4294967296) * 4294967296)) + (IntKind.u64.wrap (Int.tdiv t203 4294967296)))) (decide ((Int.tmod t203 4294967296) > 0)) false).bind fun bt204 => (some (bt204.1, bt204.2))) else ((fullerref01_signed.f k (IntKind.u64.wrap (Int.tdiv t202 4294967296)) (IntKind.u64.wrap ((IntKind.u64.wrap ((Int.tmod t202 4294967296) * 4294967296)) + (IntKind.u64.wrap (Int.tdiv t203 4294967296)))) (decide ((Int.tmod t203 4294967296) > 0)) (a1 != 0)).bind fun bt206 => (some (bt206.1, bt206.2)))) else ((fullerref01_signed.f k (IntKind.u64.wrap (Int.tdiv t202 4294967296)) (IntKind.u64.wrap ((IntKind.u64.wrap ((Int.tmod t202 4294967296) * 4294967296)) + (IntKind.u64.wrap (Int.tdiv t203 4294967296)))) (decide ((Int.tmod t203 4294967296) > 0)) false).bind fun bt208 => (some (bt208.1, bt208.2)))) = some (r1, r2) := H
  have A5 := Aside0.mk A50
  clear A50
  by_cases c6 : ((decide (a0 < 0)) != (decide (a1 < 0))) = true
  · rw [if_pos c6] at H
    have c6b0 : ((decide (a0 < 0)) != (decide (a1 < 0))) = true := c6
    (try (have c6b1 : decide ((decide (a0 < 0)) = (decide (a1 < 0))) = false := by simpa using c6))
    (try (have c6b2 : ((decide (a0 < 0)) == (decide (a1 < 0))) = false := by simpa using c6))
    (try (have c6b3 : ¬ ((decide (a0 < 0)) = (decide (a1 < 0))) := by simpa using c6))
    clear c6
    by_cases c7 : a0 = 0
    · rw [if_pos c7] at H
      have c7b0 : (a0 == 0) = true := beq_iff_eq.mpr c7
      have c7b1 : (a0 != 0) = false := bne_eq_false_iff_eq.mpr c7
      clear c7
      replace H := Option.bind_eq_some_iff.mp H
      obtain ⟨⟨t204, t205⟩, A80, H⟩ := H
      replace H : (some (t204, t205)) = some (r1, r2) := H
      have A8 := Aside0.mk A80
      clear A80
      simp only [Option.some.injEq, Prod.mk.injEq] at H
      obtain ⟨rfl, rfl⟩ := H
      go_enter Try.func20, Try.ntmps20
      go_wp2_with (first | ((with_reducible refine gate_callee (f := 36) rfl ?_); refine goesL_ (some 11) rfl rfl Try.func36 (by kernel_rfl) rfl #[.int .i64 a0] rfl (by (try simp only [List.map_toArray, List.map_cons, List.map_nil]); first | done | rfl | (simp only [List.length_drop, List.length_take]; rfl)) ?_; (with_reducible refine (fullerref01_size.calls a0 t200 _ A3.out).mono ?_); rintro e w' ⟨rfl, ⟨nd, rfl⟩⟩; refine ⟨_, rfl, ?_⟩) | ((with_reducible refine gate_callee (f := 36) rfl ?_); refine goesL_ (some 13) rfl rfl Try.func36 (by kernel_rfl) rfl #[.int .i64 a1] rfl (by (try simp only [List.map_toArray, List.map_cons, List.map_nil]); first | done | rfl | (simp only [List.length_drop, List.length_take]; rfl)) ?_; (with_reducible refine (fullerref01_size.calls a1 t201 _ A4.out).mono ?_); rintro e w' ⟨rfl, ⟨nd, rfl⟩⟩; refine ⟨_, rfl, ?_⟩) | ((with_reducible refine gate_callee (f := 35) rfl ?_); refine goesL_ (some 14) rfl rfl Try.func35 (by kernel_rfl) rfl #[.int .u64 t200, .int .u64 t201] rfl (by (try simp only [List.map_toArray, List.map_cons, List.map_nil]); first | done | rfl | (simp only [List.length_drop, List.length_take]; rfl)) ?_; (with_reducible refine (fullerref01_Wide.calls t200 t201 t202 t203 _ A5.out).mono ?_); rintro e w' ⟨rfl, ⟨nd, rfl⟩⟩; refine ⟨_, rfl, ?_⟩) | ((with_reducible refine gate_callee (f := 37) rfl ?_); refine goesL_ (some 42) rfl rfl Try.func37 (by kernel_rfl) rfl #[.int .u64 (IntKind.u64.wrap (Int.tdiv t202 4294967296)), .int .u64 (IntKind.u64.wrap ((IntKind.u64.wrap ((Int.tmod t202 4294967296) * 4294967296)) + (IntKind.u64.wrap (Int.tdiv t203 4294967296)))), .bool (decide ((Int.tmod t203 4294967296) > 0)), .bool false] rfl (by (try simp only [List.map_toArray, List.map_cons, List.map_nil]); first | done | rfl | (simp only [List.length_drop, List.length_take]; rfl)) ?_; (with_reducible refine (fullerref01_signed.calls k (IntKind.u64.wrap (Int.tdiv t202 4294967296)) (IntKind.u64.wrap ((IntKind.u64.wrap ((Int.tmod t202 4294967296) * 4294967296)) + (IntKind.u64.wrap (Int.tdiv t203 4294967296)))) (decide ((Int.tmod t203 4294967296) > 0)) false t204 t205 _ A8.out).mono ?_); rintro e w' ⟨rfl, ⟨nd, rfl⟩⟩; refine ⟨_, rfl, ?_⟩))
      go_ret2
      exact ⟨by first | rfl | (simp; done) | (simp [*]; done), by repeat (first | exact Drawn0.refl _ | apply Drawn0.step)⟩
    · rw [if_neg c7] at H
      have c7b0 : (a0 == 0) = false := beq_eq_false_iff_ne.mpr c7
      have c7b1 : (a0 != 0) = true := bne_iff_ne.mpr c7
      replace H := Option.bind_eq_some_iff.mp H
      obtain ⟨⟨t206, t207⟩, A90, H⟩ := H
      replace H : (some (t206, t207)) = some (r1, r2) := H
      have A9 := Aside0.mk A90
      clear A90
      simp only [Option.some.injEq, Prod.mk.injEq] at H
      obtain ⟨rfl, rfl⟩ := H
      go_enter Try.func20, Try.ntmps20
      go_wp2_with (first | ((with_reducible refine gate_callee (f := 36) rfl ?_); refine goesL_ (some 11) rfl rfl Try.func36 (by kernel_rfl) rfl #[.int .i64 a0] rfl (by (try simp only [List.map_toArray, List.map_cons, List.map_nil]); first | done | rfl | (simp only [List.length_drop, List.length_take]; rfl)) ?_; (with_reducible refine (fullerref01_size.calls a0 t200 _ A3.out).mono ?_); rintro e w' ⟨rfl, ⟨nd, rfl⟩⟩; refine ⟨_, rfl, ?_⟩) | ((with_reducible refine gate_callee (f := 36) rfl ?_); refine goesL_ (some 13) rfl rfl Try.func36 (by kernel_rfl) rfl #[.int .i64 a1] rfl (by (try simp only [List.map_toArray, List.map_cons, List.map_nil]); first | done | rfl | (simp only [List.length_drop, List.length_take]; rfl)) ?_; (with_reducible refine (fullerref01_size.calls a1 t201 _ A4.out).mono ?_); rintro e w' ⟨rfl, ⟨nd, rfl⟩⟩; refine ⟨_, rfl, ?_⟩) | ((with_reducible refine gate_callee (f := 35) rfl ?_); refine goesL_ (some 14) rfl rfl Try.func35 (by kernel_rfl) rfl #[.int .u64 t200, .int .u64 t201] rfl (by (try simp only [List.map_toArray, List.map_cons, List.map_nil]); first | done | rfl | (simp only [List.length_drop, List.length_take]; rfl)) ?_; (with_reducible refine (fullerref01_Wide.calls t200 t201 t202 t203 _ A5.out).mono ?_); rintro e w' ⟨rfl, ⟨nd, rfl⟩⟩; refine ⟨_, rfl, ?_⟩) | ((with_reducible refine gate_callee (f := 37) rfl ?_); refine goesL_ (some 42) rfl rfl Try.func37 (by kernel_rfl) rfl #[.int .u64 (IntKind.u64.wrap (Int.tdiv t202 4294967296)), .int .u64 (IntKind.u64.wrap ((IntKind.u64.wrap ((Int.tmod t202 4294967296) * 4294967296)) + (IntKind.u64.wrap (Int.tdiv t203 4294967296)))), .bool (decide ((Int.tmod t203 4294967296) > 0)), .bool (a1 != 0)] rfl (by (try simp only [List.map_toArray, List.map_cons, List.map_nil]); first | done | rfl | (simp only [List.length_drop, List.length_take]; rfl)) ?_; (with_reducible refine (fullerref01_signed.calls k (IntKind.u64.wrap (Int.tdiv t202 4294967296)) (IntKind.u64.wrap ((IntKind.u64.wrap ((Int.tmod t202 4294967296) * 4294967296)) + (IntKind.u64.wrap (Int.tdiv t203 4294967296)))) (decide ((Int.tmod t203 4294967296) > 0)) (a1 != 0) t206 t207 _ A9.out).mono ?_); rintro e w' ⟨rfl, ⟨nd, rfl⟩⟩; refine ⟨_, rfl, ?_⟩))
      go_ret2
      exact ⟨by first | rfl | (simp; done) | (simp [*]; done), by repeat (first | exact Drawn0.refl _ | apply Drawn0.step)⟩
  · rw [if_neg c6] at H
    have c6b0 : ((decide (a0 < 0)) != (decide (a1 < 0))) = false := by simpa using c6
    (try (have c6b1 : decide ((decide (a0 < 0)) = (decide (a1 < 0))) = true := by simpa using c6))
    (try (have c6b2 : ((decide (a0 < 0)) == (decide (a1 < 0))) = true := by simpa using c6))
    clear c6
    replace H := Option.bind_eq_some_iff.mp H
    obtain ⟨⟨t208, t209⟩, A100, H⟩ := H
    replace H : (some (t208, t209)) = some (r1, r2) := H
    have A10 := Aside0.mk A100
    clear A100
    simp only [Option.some.injEq, Prod.mk.injEq] at H
    obtain ⟨rfl, rfl⟩ := H
    go_enter Try.func20, Try.ntmps20
    go_wp2_with (first | ((with_reducible refine gate_callee (f := 36) rfl ?_); refine goesL_ (some 11) rfl rfl Try.func36 (by kernel_rfl) rfl #[.int .i64 a0] rfl (by (try simp only [List.map_toArray, List.map_cons, List.map_nil]); first | done | rfl | (simp only [List.length_drop, List.length_take]; rfl)) ?_; (with_reducible refine (fullerref01_size.calls a0 t200 _ A3.out).mono ?_); rintro e w' ⟨rfl, ⟨nd, rfl⟩⟩; refine ⟨_, rfl, ?_⟩) | ((with_reducible refine gate_callee (f := 36) rfl ?_); refine goesL_ (some 13) rfl rfl Try.func36 (by kernel_rfl) rfl #[.int .i64 a1] rfl (by (try simp only [List.map_toArray, List.map_cons, List.map_nil]); first | done | rfl | (simp only [List.length_drop, List.length_take]; rfl)) ?_; (with_reducible refine (fullerref01_size.calls a1 t201 _ A4.out).mono ?_); rintro e w' ⟨rfl, ⟨nd, rfl⟩⟩; refine ⟨_, rfl, ?_⟩) | ((with_reducible refine gate_callee (f := 35) rfl ?_); refine goesL_ (some 14) rfl rfl Try.func35 (by kernel_rfl) rfl #[.int .u64 t200, .int .u64 t201] rfl (by (try simp only [List.map_toArray, List.map_cons, List.map_nil]); first | done | rfl | (simp only [List.length_drop, List.length_take]; rfl)) ?_; (with_reducible refine (fullerref01_Wide.calls t200 t201 t202 t203 _ A5.out).mono ?_); rintro e w' ⟨rfl, ⟨nd, rfl⟩⟩; refine ⟨_, rfl, ?_⟩) | ((with_reducible refine gate_callee (f := 37) rfl ?_); refine goesL_ (some 42) rfl rfl Try.func37 (by kernel_rfl) rfl #[.int .u64 (IntKind.u64.wrap (Int.tdiv t202 4294967296)), .int .u64 (IntKind.u64.wrap ((IntKind.u64.wrap ((Int.tmod t202 4294967296) * 4294967296)) + (IntKind.u64.wrap (Int.tdiv t203 4294967296)))), .bool (decide ((Int.tmod t203 4294967296) > 0)), .bool false] rfl (by (try simp only [List.map_toArray, List.map_cons, List.map_nil]); first | done | rfl | (simp only [List.length_drop, List.length_take]; rfl)) ?_; (with_reducible refine (fullerref01_signed.calls k (IntKind.u64.wrap (Int.tdiv t202 4294967296)) (IntKind.u64.wrap ((IntKind.u64.wrap ((Int.tmod t202 4294967296) * 4294967296)) + (IntKind.u64.wrap (Int.tdiv t203 4294967296)))) (decide ((Int.tmod t203 4294967296) > 0)) false t208 t209 _ A10.out).mono ?_); rintro e w' ⟨rfl, ⟨nd, rfl⟩⟩; refine ⟨_, rfl, ?_⟩))
    go_ret2
    exact ⟨by first | rfl | (simp; done) | (simp [*]; done), by repeat (first | exact Drawn0.refl _ | apply Drawn0.step)⟩

/-! ### fullerref01_Parts: function 38 -/
def fullerref01_Parts.l0 : Nat → Int → Int → Int → Int → Int → Int → Int → Option (Int × Int × Int)
  | 0, _, _, _, _, _, _, _ => none
  | k + 1, x0, x1, x2, x9, x10, x11, x12 => if x12 ≥ 0 then (if x9 ≥ 9223372036854775808 then (fullerref01_Parts.l0 k (IntKind.u64.wrap ((IntKind.u64.wrap (x0 * 2)) + (IntKind.u64.wrap (Int.tdiv x1 9223372036854775808)))) (IntKind.u64.wrap (x1 * 2)) x2 (IntKind.u64.wrap ((IntKind.u64.wrap ((IntKind.u64.wrap (x9 * 2)) + (IntKind.u64.wrap (Int.tdiv x0 9223372036854775808)))) - x2)) (IntKind.u64.wrap ((IntKind.u64.wrap (x10 * 2)) + (IntKind.u64.wrap (Int.tdiv x11 9223372036854775808)))) (IntKind.u64.wrap ((IntKind.u64.wrap (x11 * 2)) + 1)) (wrap64 (x12 - 1))) else (if (IntKind.u64.wrap ((IntKind.u64.wrap (x9 * 2)) + (IntKind.u64.wrap (Int.tdiv x0 9223372036854775808)))) ≥ x2 then (fullerref01_Parts.l0 k (IntKind.u64.wrap ((IntKind.u64.wrap (x0 * 2)) + (IntKind.u64.wrap (Int.tdiv x1 9223372036854775808)))) (IntKind.u64.wrap (x1 * 2)) x2 (IntKind.u64.wrap ((IntKind.u64.wrap ((IntKind.u64.wrap (x9 * 2)) + (IntKind.u64.wrap (Int.tdiv x0 9223372036854775808)))) - x2)) (IntKind.u64.wrap ((IntKind.u64.wrap (x10 * 2)) + (IntKind.u64.wrap (Int.tdiv x11 9223372036854775808)))) (IntKind.u64.wrap ((IntKind.u64.wrap (x11 * 2)) + 1)) (wrap64 (x12 - 1))) else (fullerref01_Parts.l0 k (IntKind.u64.wrap ((IntKind.u64.wrap (x0 * 2)) + (IntKind.u64.wrap (Int.tdiv x1 9223372036854775808)))) (IntKind.u64.wrap (x1 * 2)) x2 (IntKind.u64.wrap ((IntKind.u64.wrap (x9 * 2)) + (IntKind.u64.wrap (Int.tdiv x0 9223372036854775808)))) (IntKind.u64.wrap ((IntKind.u64.wrap (x10 * 2)) + (IntKind.u64.wrap (Int.tdiv x11 9223372036854775808)))) (IntKind.u64.wrap (x11 * 2)) (wrap64 (x12 - 1))))) else (some (x10, x11, x9))
def fullerref01_Parts.f (k : Nat) (a0 : Int) (a1 : Int) (a2 : Int) : Option (Int × Int × Int) := fullerref01_Parts.l0 k a0 a1 a2 0 0 0 127
theorem fullerref01_Parts.mono_l : ∀ k, (∀ y0 y1 y2 y3 y4 y5 y6, LeO (fullerref01_Parts.l0 k y0 y1 y2 y3 y4 y5 y6) (fullerref01_Parts.l0 (k + 1) y0 y1 y2 y3 y4 y5 y6))
  | 0 => fun _ _ _ _ _ _ _ r h => by simp [fullerref01_Parts.l0] at h
  | k + 1 => by
    have ih0 := fullerref01_Parts.mono_l k
    · intro y0 y1 y2 y3 y4 y5 y6
      unfold fullerref01_Parts.l0
      repeat' first
      | (with_reducible exact ih0 _ _ _ _ _ _ _)
      | (with_reducible exact LeO.refl _)
      | (with_reducible exact LeO.none _)
      | (with_reducible refine LeO.ite ?_ ?_)
      | (with_reducible refine LeO.bind ?_ (fun _ => ?_))
      | exact ih0 _ _ _ _ _ _ _
      | exact LeO.none _
      | refine LeO.ite ?_ ?_
      | refine LeO.bind ?_ (fun _ => ?_)
theorem fullerref01_Parts.mono : ∀ a0 a1 a2 k, LeO (fullerref01_Parts.f k a0 a1 a2) (fullerref01_Parts.f (k + 1) a0 a1 a2) := by
  intro a0 a1 a2 k
  have ih0 := fullerref01_Parts.mono_l k
  unfold fullerref01_Parts.f
  repeat' first
      | (with_reducible exact ih0 _ _ _ _ _ _ _)
      | (with_reducible exact LeO.refl _)
      | (with_reducible exact LeO.none _)
      | (with_reducible refine LeO.ite ?_ ?_)
      | (with_reducible refine LeO.bind ?_ (fun _ => ?_))
      | exact ih0 _ _ _ _ _ _ _
      | exact LeO.none _
      | refine LeO.ite ?_ ?_
      | refine LeO.bind ?_ (fun _ => ?_)
set_option maxHeartbeats 8000000 in
set_option maxRecDepth 100000 in
theorem fullerref01_Parts.calls (k : Nat) (a0 : Int) (a1 : Int) (a2 : Int) (r1 : Int) (r2 : Int) (r3 : Int) (w : World) (h : fullerref01_Parts.f k a0 a1 a2 = some (r1, r2, r3)) :
    Calls Try.prog 38 #[.int .u64 a0, .int .u64 a1, .int .u64 a2] w fun e w' => e = .returned (.tuple #[.int .u64 r1, .int .u64 r2, .int .u64 r3]) ∧ Drawn0 w w' := by
  have H : (fullerref01_Parts.l0 k a0 a1 a2 0 0 0 127) = some (r1, r2, r3) := h
  clear h
  have H' := Aside0.mk H
  clear H
  go_enter Try.func38, Try.ntmps38
  go_wp2
  go_loopg [0, 1, 9, 10, 11, 12] k (fun kq v0 v1 v9 v10 v11 v12 w' => ∃ (x0_1 : Int) (x1_1 : Int) (x9_1 : Int) (x10_1 : Int) (x11_1 : Int) (x12_1 : Int), v0 = .int .u64 x0_1 ∧ v1 = .int .u64 x1_1 ∧ v9 = .int .u64 x9_1 ∧ v10 = .int .u64 x10_1 ∧ v11 = .int .u64 x11_1 ∧ v12 = .int .i64 x12_1 ∧ Aside0 (fullerref01_Parts.l0 kq x0_1 x1_1 a2 x9_1 x10_1 x11_1 x12_1 = some (r1, r2, r3)) ∧ Aside0 (kq ≤ k) ∧ Drawn0 w w')
  case atStart => exact ⟨(a0), (a1), (0), (0), (0), (127), (by first | rfl | (simp; done) | (simp [*]; done)), (by first | rfl | (simp; done) | (simp [*]; done)), (by first | rfl | (simp; done) | (simp [*]; done)), (by first | rfl | (simp; done) | (simp [*]; done)), (by first | rfl | (simp; done) | (simp [*]; done)), (by first | rfl | (simp; done) | (simp [*]; done)), H', ⟨Nat.le_refl _⟩, by repeat (first | exact Drawn0.refl _ | apply Drawn0.step)⟩
  case round =>
    clear H'
    try clear p2
    try clear c3
    obtain ⟨x0_1, x1_1, x9_1, x10_1, x11_1, x12_1, rfl, rfl, rfl, rfl, rfl, rfl, HA, HK1, ⟨m1, rfl⟩⟩ := hrel
    cases gk with
    | zero => exact absurd HA.out (by simp [fullerref01_Parts.l0])
    | succ k1 =>
      have H := HA.out
      clear HA
      simp only [fullerref01_Parts.l0] at H
      by_cases c4 : x12_1 ≥ 0
      · rw [if_pos c4] at H
        have c4b0 : decide (0 ≤ x12_1) = true := decide_eq_true c4
        clear c4
        by_cases c5 : x9_1 ≥ 9223372036854775808
        · rw [if_pos c5] at H
          have c5b0 : decide (9223372036854775808 ≤ x9_1) = true := decide_eq_true c5
          clear c5
          have H' := Aside0.mk H
          clear H
          go_wp2
          go_roundg k1
          case measure => have := HK1.out; omega
          case rel => exact ⟨(IntKind.u64.wrap ((IntKind.u64.wrap (x0_1 * 2)) + (IntKind.u64.wrap (Int.tdiv x1_1 9223372036854775808)))), (IntKind.u64.wrap (x1_1 * 2)), (IntKind.u64.wrap ((IntKind.u64.wrap ((IntKind.u64.wrap (x9_1 * 2)) + (IntKind.u64.wrap (Int.tdiv x0_1 9223372036854775808)))) - a2)), (IntKind.u64.wrap ((IntKind.u64.wrap (x10_1 * 2)) + (IntKind.u64.wrap (Int.tdiv x11_1 9223372036854775808)))), (IntKind.u64.wrap ((IntKind.u64.wrap (x11_1 * 2)) + 1)), (wrap64 (x12_1 - 1)), (by first | rfl | (simp; done) | (simp [*]; done)), (by first | rfl | (simp; done) | (simp [*]; done)), (by first | rfl | (simp; done) | (simp [*]; done)), (by first | rfl | (simp; done) | (simp [*]; done)), (by first | rfl | (simp; done) | (simp [*]; done)), (by first | rfl | (simp; done) | (simp [*]; done)), H', ⟨by have := HK1.out; omega⟩, by repeat (first | exact Drawn0.refl _ | apply Drawn0.step)⟩
        · rw [if_neg c5] at H
          have c5b0 : decide (9223372036854775808 ≤ x9_1) = false := decide_eq_false c5
          clear c5
          by_cases c6 : (IntKind.u64.wrap ((IntKind.u64.wrap (x9_1 * 2)) + (IntKind.u64.wrap (Int.tdiv x0_1 9223372036854775808)))) ≥ a2
          · rw [if_pos c6] at H
            have c6b0 : decide (a2 ≤ (IntKind.u64.wrap ((IntKind.u64.wrap (x9_1 * 2)) + (IntKind.u64.wrap (Int.tdiv x0_1 9223372036854775808))))) = true := decide_eq_true c6
            clear c6
            have H' := Aside0.mk H
            clear H
            go_wp2
            go_roundg k1
            case measure => have := HK1.out; omega
            case rel => exact ⟨(IntKind.u64.wrap ((IntKind.u64.wrap (x0_1 * 2)) + (IntKind.u64.wrap (Int.tdiv x1_1 9223372036854775808)))), (IntKind.u64.wrap (x1_1 * 2)), (IntKind.u64.wrap ((IntKind.u64.wrap ((IntKind.u64.wrap (x9_1 * 2)) + (IntKind.u64.wrap (Int.tdiv x0_1 9223372036854775808)))) - a2)), (IntKind.u64.wrap ((IntKind.u64.wrap (x10_1 * 2)) + (IntKind.u64.wrap (Int.tdiv x11_1 9223372036854775808)))), (IntKind.u64.wrap ((IntKind.u64.wrap (x11_1 * 2)) + 1)), (wrap64 (x12_1 - 1)), (by first | rfl | (simp; done) | (simp [*]; done)), (by first | rfl | (simp; done) | (simp [*]; done)), (by first | rfl | (simp; done) | (simp [*]; done)), (by first | rfl | (simp; done) | (simp [*]; done)), (by first | rfl | (simp; done) | (simp [*]; done)), (by first | rfl | (simp; done) | (simp [*]; done)), H', ⟨by have := HK1.out; omega⟩, by repeat (first | exact Drawn0.refl _ | apply Drawn0.step)⟩
          · rw [if_neg c6] at H
            have c6b0 : decide (a2 ≤ (IntKind.u64.wrap ((IntKind.u64.wrap (x9_1 * 2)) + (IntKind.u64.wrap (Int.tdiv x0_1 9223372036854775808))))) = false := decide_eq_false c6
            clear c6
            have H' := Aside0.mk H
            clear H
            go_wp2
            go_roundg k1
            case measure => have := HK1.out; omega
            case rel => exact ⟨(IntKind.u64.wrap ((IntKind.u64.wrap (x0_1 * 2)) + (IntKind.u64.wrap (Int.tdiv x1_1 9223372036854775808)))), (IntKind.u64.wrap (x1_1 * 2)), (IntKind.u64.wrap ((IntKind.u64.wrap (x9_1 * 2)) + (IntKind.u64.wrap (Int.tdiv x0_1 9223372036854775808)))), (IntKind.u64.wrap ((IntKind.u64.wrap (x10_1 * 2)) + (IntKind.u64.wrap (Int.tdiv x11_1 9223372036854775808)))), (IntKind.u64.wrap (x11_1 * 2)), (wrap64 (x12_1 - 1)), (by first | rfl | (simp; done) | (simp [*]; done)), (by first | rfl | (simp; done) | (simp [*]; done)), (by first | rfl | (simp; done) | (simp [*]; done)), (by first | rfl | (simp; done) | (simp [*]; done)), (by first | rfl | (simp; done) | (simp [*]; done)), (by first | rfl | (simp; done) | (simp [*]; done)), H', ⟨by have := HK1.out; omega⟩, by repeat (first | exact Drawn0.refl _ | apply Drawn0.step)⟩
      · rw [if_neg c4] at H
        have c4b0 : decide (0 ≤ x12_1) = false := decide_eq_false c4
        clear c4
        simp only [Option.some.injEq, Prod.mk.injEq] at H
        obtain ⟨rfl, rfl, rfl⟩ := H
        go_wp2
        go_ret3
        exact ⟨by first | rfl | (simp; done) | (simp [*]; done), by repeat (first | exact Drawn0.refl _ | apply Drawn0.step)⟩

end Go.Proofs.Ytkebkghhncelpaa.A
