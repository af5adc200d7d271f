/- Lean functions that answer as the Go functions do, and the proofs that they do; no conditions. Written by this session's own driver: a scratch copy of the kit's print with the session's additions (wip/xprint). -/
import Derived.Test.YtkebkghhncelpaaAx0
import Derived.Test.YtkebkghhncelpaaAx5
import Derived.Test.YtkebkghhncelpaaAx16
import Derived.Test.YtkebkghhncelpaaAx17
namespace Go.Proofs.Ytkebkghhncelpaa.A
open Go.RowKit Go.Proofs.YtkebkghhncelpaaW.PrintWords Go.Proofs.YtkebkghhncelpaaW.PrintLast Go.Proofs.YtkebkghhncelpaaW.PrintMore
attribute [local go_sem] max2_int min2_int max_two min_two max_three min_three max_four min_four   -- for this text's walks alone
set_option linter.unusedVariables false
set_option linter.unusedSimpArgs false

/-! ### fullerref01_Pow: function 24 -/
def fullerref01_Pow.f (k : Nat) (a0 : Int) : Option (Int × Int) := (fullerref01_floor.f a0).bind fun bt221 => ((fullerref01_shifted.f k (wrap64 (4294967296 + bt221.2)) bt221.1).bind fun bt223 => (some (bt223.1, bt223.2)))
theorem fullerref01_Pow.mono : ∀ a0 k, LeO (fullerref01_Pow.f k a0) (fullerref01_Pow.f (k + 1) a0) := by
  intro a0 k
  unfold fullerref01_Pow.f
  repeat' first
      | (with_reducible exact fullerref01_shifted.mono _ _ _)
      | (with_reducible exact LeO.refl _)
      | (with_reducible exact LeO.none _)
      | (with_reducible refine LeO.ite ?_ ?_)
      | (with_reducible refine LeO.bind ?_ (fun _ => ?_))
      | exact fullerref01_shifted.mono _ _ _
      | exact LeO.none _
      | refine LeO.ite ?_ ?_
      | refine LeO.bind ?_ (fun _ => ?_)
set_option maxHeartbeats 8000000 in
set_option maxRecDepth 100000 in
theorem fullerref01_Pow.calls (k : Nat) (a0 : Int) (r1 : Int) (r2 : Int) (w : World) (h : fullerref01_Pow.f k a0 = some (r1, r2)) :
    Calls Try.prog 24 #[.int .i64 a0] w fun e w' => e = .returned (.tuple #[.int .i64 r1, .int .i64 r2]) ∧ Drawn0 w w' := by
  have H : ((fullerref01_floor.f a0).bind fun bt221 => ((fullerref01_shifted.f k (wrap64 (4294967296 + bt221.2)) bt221.1).bind fun bt223 => (some (bt223.1, bt223.2)))) = some (r1, r2) := h
  clear h
  replace H := Option.bind_eq_some_iff.mp H
  obtain ⟨⟨t221, t222⟩, A20, H⟩ := H
  replace H : ((fullerref01_shifted.f k (wrap64 (4294967296 + t222)) t221).bind fun bt223 => (some (bt223.1, bt223.2))) = some (r1, r2) := H
  have A2 := Aside0.mk A20
  clear A20
  replace H := Option.bind_eq_some_iff.mp H
  obtain ⟨⟨t223, t224⟩, A30, H⟩ := H
  replace H : (some (t223, t224)) = some (r1, r2) := H
  have A3 := Aside0.mk A30
  clear A30
  simp only [Option.some.injEq, Prod.mk.injEq] at H
  obtain ⟨rfl, rfl⟩ := H
  go_enter Try.func24, Try.ntmps24
  go_wp2_with (first | ((with_reducible refine gate_callee (f := 39) rfl ?_); refine goesL_ (some 8) rfl rfl Try.func39 (by kernel_rfl) rfl #[.int .i64 a0] rfl (by (try simp only [List.map_toArray, List.map_cons, List.map_nil]); first | done | rfl | (simp only [List.length_drop, List.length_take]; rfl)) ?_; (with_reducible refine (fullerref01_floor.calls a0 t221 t222 _ A2.out).mono ?_); rintro e w' ⟨rfl, ⟨nd, rfl⟩⟩; refine ⟨_, rfl, ?_⟩) | ((with_reducible refine gate_callee (f := 40) rfl ?_); refine goesL_ (some 14) rfl rfl Try.func40 (by kernel_rfl) rfl #[.int .i64 (wrap64 (4294967296 + t222)), .int .i64 t221] rfl (by (try simp only [List.map_toArray, List.map_cons, List.map_nil]); first | done | rfl | (simp only [List.length_drop, List.length_take]; rfl)) ?_; (with_reducible refine (fullerref01_shifted.calls k (wrap64 (4294967296 + t222)) t221 t223 t224 _ A3.out).mono ?_); rintro e w' ⟨rfl, ⟨nd, rfl⟩⟩; refine ⟨_, rfl, ?_⟩))
  go_ret2
  exact ⟨by first | rfl | (simp; done) | (simp [*]; done), by repeat (first | exact Drawn0.refl _ | apply Drawn0.step)⟩

/-! ### fix_Slope: function 25 -/
def fix_Slope.f (k : Nat) (a0 : Int) : Option (Int × Int) := (fix_shifted.f k 4294967296 (a0 / 4294967296)).bind fun bt225 => (some (bt225.1, bt225.2))
theorem fix_Slope.mono : ∀ a0 k, LeO (fix_Slope.f k a0) (fix_Slope.f (k + 1) a0) := by
  intro a0 k
  unfold fix_Slope.f
  repeat' first
      | (with_reducible exact fix_shifted.mono _ _ _)
      | (with_reducible exact LeO.refl _)
      | (with_reducible exact LeO.none _)
      | (with_reducible refine LeO.ite ?_ ?_)
      | (with_reducible refine LeO.bind ?_ (fun _ => ?_))
      | exact fix_shifted.mono _ _ _
      | exact LeO.none _
      | refine LeO.ite ?_ ?_
      | refine LeO.bind ?_ (fun _ => ?_)
set_option maxHeartbeats 8000000 in
set_option maxRecDepth 100000 in
theorem fix_Slope.calls (k : Nat) (a0 : Int) (r1 : Int) (r2 : Int) (w : World) (h : fix_Slope.f k a0 = some (r1, r2)) :
    Calls Try.prog 25 #[.int .i64 a0] w fun e w' => e = .returned (.tuple #[.int .i64 r1, .int .i64 r2]) ∧ Below w.heap.size w w' := by
  have HB := Aside0.mk (Below.refl w.heap.size w)
  have H : ((fix_shifted.f k 4294967296 (a0 / 4294967296)).bind fun bt225 => (some (bt225.1, bt225.2))) = some (r1, r2) := h
  clear h
  replace H := Option.bind_eq_some_iff.mp H
  obtain ⟨⟨t225, t226⟩, A20, H⟩ := H
  replace H : (some (t225, t226)) = some (r1, r2) := H
  have A2 := Aside0.mk A20
  clear A20
  simp only [Option.some.injEq, Prod.mk.injEq] at H
  obtain ⟨rfl, rfl⟩ := H
  go_enter Try.func25, Try.ntmps25
  go_wp2_with (first | ((with_reducible refine gate_callee (f := 34) rfl ?_); refine goesL_ (some 6) rfl rfl Try.func34 (by kernel_rfl) rfl #[.int .u64 4294967296, .int .i64 (a0 / 4294967296)] rfl (by (try simp only [List.map_toArray, List.map_cons, List.map_nil]); first | done | rfl | (simp only [List.length_drop, List.length_take]; rfl)) ?_; (with_reducible refine (fix_shifted.calls k 4294967296 (a0 / 4294967296) t225 t226 _ A2.out).mono ?_); rintro e w3 ⟨rfl, hb⟩; refine ⟨_, rfl, ?_⟩; have n0_ := Aside0.mk (below_step (by repeat (first | (with_reducible first | exact HB.out | apply below_alloc | apply pw_below_drewN | apply below_drew1) | exact HB.out)) hb); clear HB; have HB := n0_; clear n0_; (try clear hb); (try clear hb2); (try clear hk); (try clear hi)))
  go_ret2
  exact ⟨by first | rfl | (simp [errW_none, errW_some] <;> rfl) | (simp [*, errW_none, errW_some] <;> rfl), by repeat (first | (with_reducible first | exact HB.out | apply below_alloc | apply pw_below_drewN | apply below_drew1) | exact HB.out)⟩

/-! ### fullerref01_Slope: function 26 -/
def fullerref01_Slope.f (k : Nat) (a0 : Int) : Option (Int × Int) := (fullerref01_floor.f a0).bind fun bt227 => ((fullerref01_shifted.f k 4294967296 bt227.1).bind fun bt229 => (some (bt229.1, bt229.2)))
theorem fullerref01_Slope.mono : ∀ a0 k, LeO (fullerref01_Slope.f k a0) (fullerref01_Slope.f (k + 1) a0) := by
  intro a0 k
  unfold fullerref01_Slope.f
  repeat' first
      | (with_reducible exact fullerref01_shifted.mono _ _ _)
      | (with_reducible exact LeO.refl _)
      | (with_reducible exact LeO.none _)
      | (with_reducible refine LeO.ite ?_ ?_)
      | (with_reducible refine LeO.bind ?_ (fun _ => ?_))
      | exact fullerref01_shifted.mono _ _ _
      | exact LeO.none _
      | refine LeO.ite ?_ ?_
      | refine LeO.bind ?_ (fun _ => ?_)
set_option maxHeartbeats 8000000 in
set_option maxRecDepth 100000 in
theorem fullerref01_Slope.calls (k : Nat) (a0 : Int) (r1 : Int) (r2 : Int) (w : World) (h : fullerref01_Slope.f k a0 = some (r1, r2)) :
    Calls Try.prog 26 #[.int .i64 a0] w fun e w' => e = .returned (.tuple #[.int .i64 r1, .int .i64 r2]) ∧ Drawn0 w w' := by
  have H : ((fullerref01_floor.f a0).bind fun bt227 => ((fullerref01_shifted.f k 4294967296 bt227.1).bind fun bt229 => (some (bt229.1, bt229.2)))) = some (r1, r2) := h
  clear h
  replace H := Option.bind_eq_some_iff.mp H
  obtain ⟨⟨t227, t228⟩, A20, H⟩ := H
  replace H : ((fullerref01_shifted.f k 4294967296 t227).bind fun bt229 => (some (bt229.1, bt229.2))) = some (r1, r2) := H
  have A2 := Aside0.mk A20
  clear A20
  replace H := Option.bind_eq_some_iff.mp H
  obtain ⟨⟨t229, t230⟩, A30, H⟩ := H
  replace H : (some (t229, t230)) = some (r1, r2) := H
  have A3 := Aside0.mk A30
  clear A30
  simp only [Option.some.injEq, Prod.mk.injEq] at H
  obtain ⟨rfl, rfl⟩ := H
  go_enter Try.func26, Try.ntmps26
  go_wp2_with (first | ((with_reducible refine gate_callee (f := 39) rfl ?_); refine goesL_ (some 8) rfl rfl Try.func39 (by kernel_rfl) rfl #[.int .i64 a0] rfl (by (try simp only [List.map_toArray, List.map_cons, List.map_nil]); first | done | rfl | (simp only [List.length_drop, List.length_take]; rfl)) ?_; (with_reducible refine (fullerref01_floor.calls a0 t227 t228 _ A2.out).mono ?_); rintro e w' ⟨rfl, ⟨nd, rfl⟩⟩; refine ⟨_, rfl, ?_⟩) | ((with_reducible refine gate_callee (f := 40) rfl ?_); refine goesL_ (some 12) rfl rfl Try.func40 (by kernel_rfl) rfl #[.int .i64 4294967296, .int .i64 t227] rfl (by (try simp only [List.map_toArray, List.map_cons, List.map_nil]); first | done | rfl | (simp only [List.length_drop, List.length_take]; rfl)) ?_; (with_reducible refine (fullerref01_shifted.calls k 4294967296 t227 t229 t230 _ A3.out).mono ?_); rintro e w' ⟨rfl, ⟨nd, rfl⟩⟩; refine ⟨_, rfl, ?_⟩))
  go_ret2
  exact ⟨by first | rfl | (simp; done) | (simp [*]; done), by repeat (first | exact Drawn0.refl _ | apply Drawn0.step)⟩

end Go.Proofs.Ytkebkghhncelpaa.A
