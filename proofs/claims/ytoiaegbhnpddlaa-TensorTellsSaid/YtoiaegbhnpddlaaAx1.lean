/- Lean functions that answer as the Go functions do, and the proofs that they do; no conditions. Written by this session's own driver: a scratch copy of the kit's print with the session's additions (wip/xprint). -/
import Derived.Test.YtoiaegbhnpddlaaAx0
namespace Go.Proofs.Ytoiaegbhnpddlaa.A
open Go.RowKit Go.Proofs.YtoiaegbhnpddlaaW.PrintWords Go.Proofs.YtoiaegbhnpddlaaW.PrintLast Go.Proofs.YtoiaegbhnpddlaaW.PrintMore
attribute [local go_sem] max2_int min2_int max_two min_two max_three min_three max_four min_four   -- for this text's walks alone
set_option linter.unusedVariables false
set_option linter.unusedSimpArgs false

/-! ### shape_Check: function 25 -/
def shape_Check.l0 : Nat → Int → List Int → Int → Int → Option (Bool)
  | 0, _, _, _, _ => none
  | k + 1, x3, x9, x10, x11 => if x11 < x10 then (if 0 ≤ x11 then (if x11 < (x9.length : Int) then (if (rd x9 x11) < 1 then (some false) else (if (rd x9 x11) > 16 then (some false) else (shape_Check.l0 k (wrap64 (x3 * (rd x9 x11))) x9 x10 (wrap64 (x11 + 1))))) else (none)) else (none)) else (if x3 > 0 then (some (decide (x3 ≤ 64))) else (some false))
def shape_Check.f (k : Nat) (l0 : List Int) : Option (Bool) := if (l0.length : Int) > 3 then (some false) else (shape_Check.l0 k 1 l0 (l0.length : Int) 0)
theorem shape_Check.mono_l : ∀ k, (∀ y0 y1 y2 y3, LeO (shape_Check.l0 k y0 y1 y2 y3) (shape_Check.l0 (k + 1) y0 y1 y2 y3))
  | 0 => fun _ _ _ _ r h => by simp [shape_Check.l0] at h
  | k + 1 => by
    have ih0 := shape_Check.mono_l k
    · intro y0 y1 y2 y3
      unfold shape_Check.l0
      repeat' first
      | (with_reducible exact ih0 _ _ _ _)
      | (with_reducible exact LeO.refl _)
      | (with_reducible exact LeO.none _)
      | (with_reducible refine LeO.ite ?_ ?_)
      | (with_reducible refine LeO.bind ?_ (fun _ => ?_))
      | exact ih0 _ _ _ _
      | exact LeO.none _
      | refine LeO.ite ?_ ?_
      | refine LeO.bind ?_ (fun _ => ?_)
theorem shape_Check.mono : ∀ a0 k, LeO (shape_Check.f k a0) (shape_Check.f (k + 1) a0) := by
  intro a0 k
  have ih0 := shape_Check.mono_l k
  unfold shape_Check.f
  repeat' first
      | (with_reducible exact ih0 _ _ _ _)
      | (with_reducible exact LeO.refl _)
      | (with_reducible exact LeO.none _)
      | (with_reducible refine LeO.ite ?_ ?_)
      | (with_reducible refine LeO.bind ?_ (fun _ => ?_))
      | exact ih0 _ _ _ _
      | exact LeO.none _
      | refine LeO.ite ?_ ?_
      | refine LeO.bind ?_ (fun _ => ?_)
set_option maxHeartbeats 8000000 in
set_option maxRecDepth 100000 in
theorem shape_Check.calls (k : Nat) (A0 : Option Addr) (c0 : Nat) (l0 : List Int) (r : Bool) (w : World) (hr0 : Kd.C (Kd.int .i64) w A0 l0.length l0) (hc0 : l0.length ≤ c0) (h : shape_Check.f k l0 = some r) :
    Calls Try.prog 25 #[.slice A0 l0.length c0] w fun e w' => e = .returned (.bool r) ∧ Drawn0 w w' := by
  have HR0 := Aside0.mk hr0
  have HC0 := Aside0.mk hc0
  clear hr0 hc0
  have H : (if (l0.length : Int) > 3 then (some false) else (shape_Check.l0 k 1 l0 (l0.length : Int) 0)) = some r := h
  clear h
  by_cases c2 : (l0.length : Int) > 3
  · rw [if_pos c2] at H
    have c2b0 : decide (3 < (l0.length : Int)) = true := decide_eq_true c2
    have c2b1 : decide (3 < l0.length) = true := decide_eq_true (by omega)
    clear c2
    obtain rfl := Option.some.inj H
    go_enter Try.func25, Try.ntmps25
    (go_wp2; repeat (go_step3; go_wp2))
    (try rw [Exit.noGoto_ret])
    go_ret
    exact ⟨by first | rfl | (simp; done) | (simp [*]; done), by repeat (first | exact Drawn0.refl _ | apply Drawn0.step)⟩
  · rw [if_neg c2] at H
    have c2b0 : decide (3 < (l0.length : Int)) = false := decide_eq_false c2
    have c2b1 : decide (3 < l0.length) = false := decide_eq_false (by omega)
    clear c2
    have H' := Aside0.mk H
    clear H
    go_enter Try.func25, Try.ntmps25
    (go_wp2; repeat (go_step3; go_wp2))
    go_loopg [3, 11] k (fun kq v3 v11 w' => ∃ (x3_1 : Int) (x11_1 : Int), v3 = .int .i64 x3_1 ∧ v11 = .int .i64 x11_1 ∧ Aside0 (shape_Check.l0 kq x3_1 l0 (l0.length : Int) x11_1 = some r) ∧ Aside0 (kq ≤ k) ∧ Drawn0 w w')
    case atStart => exact ⟨(1), (0), (by first | rfl | (simp; done) | (simp [*]; done)), (by first | rfl | (simp; done) | (simp [*]; done)), H', ⟨Nat.le_refl _⟩, by repeat (first | exact Drawn0.refl _ | apply Drawn0.step)⟩
    case round =>
      clear H'
      try clear c2
      try clear c2b0
      try clear c2b1
      try clear p2
      obtain ⟨x3_1, x11_1, rfl, rfl, HA, HK1, ⟨m1, rfl⟩⟩ := hrel
      cases gk with
      | zero => exact absurd HA.out (by simp [shape_Check.l0])
      | succ k1 =>
        have H := HA.out
        clear HA
        simp only [shape_Check.l0] at H
        by_cases c3 : x11_1 < (l0.length : Int)
        · rw [if_pos c3] at H
          have c3b0 : decide (x11_1 < (l0.length : Int)) = true := decide_eq_true c3
          clear c3
          by_cases c4 : 0 ≤ x11_1
          · rw [if_pos c4] at H
            have c4b0 : decide (0 ≤ x11_1) = true := decide_eq_true c4
            clear c4
            by_cases c5 : x11_1 < (l0.length : Int)
            · rw [if_pos c5] at H
              have c5b0 : decide (x11_1 < (l0.length : Int)) = true := decide_eq_true c5
              clear c5
              by_cases c6 : (rd l0 x11_1) < 1
              · rw [if_pos c6] at H
                have c6b0 : decide ((rd l0 x11_1) < 1) = true := decide_eq_true c6
                clear c6
                obtain rfl := Option.some.inj H
                have p101 : 0 ≤ (x11_1 : Int) := of_decide_eq_true (by first | (with_reducible assumption) | assumption)
                have q101 : x11_1 < (l0.length : Int) := of_decide_eq_true (by first | (with_reducible assumption) | assumption)
                obtain ⟨ad101, e101, hx101_0⟩ := Kd.at_int HR0.out x11_1 p101 q101
                cases e101
                replace p101 := eq_true p101
                replace q101 := eq_true q101
                (go_wp2; repeat (go_step3; go_wp2))
                (try rw [Exit.noGoto_ret])
                go_ret
                exact ⟨by first | rfl | (simp; done) | (simp [*]; done), by repeat (first | exact Drawn0.refl _ | apply Drawn0.step)⟩
              · rw [if_neg c6] at H
                have c6b0 : decide ((rd l0 x11_1) < 1) = false := decide_eq_false c6
                clear c6
                by_cases c7 : (rd l0 x11_1) > 16
                · rw [if_pos c7] at H
                  have c7b0 : decide (16 < (rd l0 x11_1)) = true := decide_eq_true c7
                  clear c7
                  obtain rfl := Option.some.inj H
                  have p101 : 0 ≤ (x11_1 : Int) := of_decide_eq_true (by first | (with_reducible assumption) | assumption)
                  have q101 : x11_1 < (l0.length : Int) := of_decide_eq_true (by first | (with_reducible assumption) | assumption)
                  obtain ⟨ad101, e101, hx101_0⟩ := Kd.at_int HR0.out x11_1 p101 q101
                  cases e101
                  replace p101 := eq_true p101
                  replace q101 := eq_true q101
                  (go_wp2; repeat (go_step3; go_wp2))
                  (try rw [Exit.noGoto_ret])
                  go_ret
                  exact ⟨by first | rfl | (simp; done) | (simp [*]; done), by repeat (first | exact Drawn0.refl _ | apply Drawn0.step)⟩
                · rw [if_neg c7] at H
                  have c7b0 : decide (16 < (rd l0 x11_1)) = false := decide_eq_false c7
                  clear c7
                  have H' := Aside0.mk H
                  clear H
                  have p101 : 0 ≤ (x11_1 : Int) := of_decide_eq_true (by first | (with_reducible assumption) | assumption)
                  have q101 : x11_1 < (l0.length : Int) := of_decide_eq_true (by first | (with_reducible assumption) | assumption)
                  obtain ⟨ad101, e101, hx101_0⟩ := Kd.at_int HR0.out x11_1 p101 q101
                  cases e101
                  replace p101 := eq_true p101
                  replace q101 := eq_true q101
                  (go_wp2; repeat (go_step3; go_wp2))
                  go_roundg k1
                  case measure => have := HK1.out; omega
                  case rel => exact ⟨(wrap64 (x3_1 * (rd l0 x11_1))), (wrap64 (x11_1 + 1)), (by first | rfl | (simp; done) | (simp [*]; done)), (by first | rfl | (simp; done) | (simp [*]; done)), H', ⟨by have := HK1.out; omega⟩, by repeat (first | exact Drawn0.refl _ | apply Drawn0.step)⟩
            · rw [if_neg c5] at H
              exact absurd H (by simp)
          · rw [if_neg c4] at H
            exact absurd H (by simp)
        · rw [if_neg c3] at H
          have c3b0 : decide (x11_1 < (l0.length : Int)) = false := decide_eq_false c3
          clear c3
          by_cases c8 : x3_1 > 0
          · rw [if_pos c8] at H
            have c8b0 : decide (0 < x3_1) = true := decide_eq_true c8
            clear c8
            obtain rfl := Option.some.inj H
            (go_wp2; repeat (go_step3; go_wp2))
            (try rw [Exit.noGoto_ret])
            go_ret
            exact ⟨by first | rfl | (simp; done) | (simp [*]; done), by repeat (first | exact Drawn0.refl _ | apply Drawn0.step)⟩
          · rw [if_neg c8] at H
            have c8b0 : decide (0 < x3_1) = false := decide_eq_false c8
            clear c8
            obtain rfl := Option.some.inj H
            (go_wp2; repeat (go_step3; go_wp2))
            (try rw [Exit.noGoto_ret])
            go_ret
            exact ⟨by first | rfl | (simp; done) | (simp [*]; done), by repeat (first | exact Drawn0.refl _ | apply Drawn0.step)⟩

/-! ### slices_Clone_int_int: function 28 (given) -/
def slices_Clone_int_int.f (l0 : List Int) : Option (List Int) := if l0.length < 17592186044416 then some l0 else none
set_option maxHeartbeats 8000000 in
set_option maxRecDepth 100000 in
theorem slices_Clone_int_int.calls (A0 : Option Addr) (c0 : Nat) (l0 : List Int) (r : List Int) (w : World) (hr0 : Kd.C (Kd.int .i64) w A0 l0.length l0) (hc0 : l0.length ≤ c0) (h : slices_Clone_int_int.f l0 = some r) :
    Calls Try.prog 28 #[.slice A0 l0.length c0] w fun e w' => ∃ v0_ : Value, e = .returned (v0_) ∧ Kd.R (Kd.int .i64) 3 w' w.heap.size (fun _ => True) v0_ r ∧ Below w.heap.size w w' := by
  unfold slices_Clone_int_int.f at h
  by_cases hl : l0.length < 17592186044416
  · rw [if_pos hl] at h
    obtain rfl := Option.some.inj h
    have HL := Aside0.mk hl
    have HR0 := Aside0.mk hr0
    have HC0 := Aside0.mk hc0
    have HB := Aside0.mk (Below.refl w.heap.size w)
    clear hl h
    cases A0 with
    | none =>
      have h0 : l0 = [] := by
        by_cases hn : l0 = []
        · exact hn
        · exfalso
          obtain ⟨ad, he, _⟩ := Kd.at_int HR0.out 0 (by omega) (by have := List.length_pos_iff.mpr hn; omega)
          cases he
      subst h0
      clear hr0 hc0
      have hne : ∀ W : World, (binOp .eql 22 (.slice none 0 c0) (.slice none 0 0)).run Try.prog W = .ok (.bool true) W := fun W => Lib.run_eql_slice_nil W 22 3 none 0 c0 0 0 Try.underlying22
      simp only [List.length_nil]
      go_enter Try.func28, Try.ntmps28
      go_wp2
      go_ret
      exact ⟨_, rfl, Kd.R_nil _ _ _ _ _, HB.out⟩
    | some ad =>
      clear hr0 hc0
      have hne : ∀ W : World, (binOp .eql 22 (.slice (some ad) l0.length c0) (.slice none 0 0)).run Try.prog W = .ok (.bool false) W := fun W => Lib.run_eql_slice_nil W 22 3 (some ad) l0.length c0 0 0 Try.underlying22
      obtain ⟨y1, hy1⟩ : ∃ y_ : List Int, y_ = ([] : List Int) := ⟨_, rfl⟩
      have Ny1 := Aside0.mk hy1
      obtain ⟨y2, hy2⟩ : ∃ y_ : List Int, y_ = y1 ++ l0 := ⟨_, rfl⟩
      have Ny2 := Aside0.mk hy2
      have he : y2 = l0 := by rw [hy2, hy1]; rfl
      have HE := Aside0.mk he
      clear hy1 hy2 he
      go_enter Try.func28, Try.ntmps28
      go_wp2_with (first | ((with_reducible refine gate_dst (N := 5) rfl ?_); refine Kd.R_lit (Kd.int .i64) _ 3 ?hg (N := 5) ?hd (xs := ([] : List Int)) (inner := []) (ok := fun _ => True) (okp := fun _ => True) ?hr ?hp (fun _ hk => hk) trivial (Below.refl _ _) (Nat.le_refl _) (by simp) ?_; (case hd => rfl); (case hg => rfl); (case hr => first | (go_simp; done) | (go_simp; rfl)); (case hp => exact (Reps.none _ _)); intro v218 w4 ho5 hb hg_ hnew_; clear hg_ hnew_; rw [← Ny1.out] at ho5; have n0_ := Aside0.mk (Kd.R_lower ho5 (below_size (by repeat (first | (with_reducible first | exact HB.out | apply below_alloc | apply pw_below_drewN | apply below_drew1) | exact HB.out)))); have n1_ := Aside0.mk (below_step (by repeat (first | (with_reducible first | exact HB.out | apply below_alloc | apply pw_below_drewN | apply below_drew1) | exact HB.out)) hb); clear HB; have HO219 := n0_; have HB := n1_; clear n0_ n1_; clear hb ho5) | ((with_reducible refine gate_builtin (b := .append) (xs := #[.tmp 5, .tmp 6]) rfl ?_); at_builtin; refine Kd.R_append_rows (Kd.int .i64) (w0 := w) w.heap.size rfl (.tmp 5) (.tmp 6) 22 3 (.int .i64 0) 8 rfl Try.underlying22 info3 rfl (by decide) (by omega) v218 y1 l0 _ _ _ (fun _ => True) (fun _ => False) rfl rfl ?aO ?aR (fun _ _ h => h) (fun _ h => h.elim) ?aF ?aB ?aS ?aL ?_; (case aR => repeat (first | exact (Kd.C_below HR0.out HB.out) | (with_reducible refine Kd.C_alloc ?_ _) | (with_reducible refine Kd.C_drewN ?_ _) | (with_reducible refine Kd.C_drew ?_))); (case aB => exact (by repeat (first | (with_reducible first | exact HB.out | apply below_alloc | apply pw_below_drewN | apply below_drew1) | exact HB.out))); (case aF => exact (fun _ _ => trivial)); (case aO => exact (by (with_reducible repeat (first | apply Kd.R_alloc | apply Kd.R_drewN | apply Kd.R_drew)); exact HO219.out)); (case aS => exact (below_size (by repeat (first | (with_reducible first | exact HB.out | apply below_alloc | apply pw_below_drewN | apply below_drew1) | exact HB.out)))); (case aL => have := HL.out; have h3 := Ny1.out; rw [h3]; simp; omega); intro v221 w6 ho hb hg hat; rw [← Ny2.out, HE.out] at ho; have n0_ := Aside0.mk (hb); have n1_ := Aside0.mk (ho); clear HB; clear HO219; have HB := n0_; have HO222 := n1_; clear n0_ n1_; clear ho hb hg hat))
      go_ret
      exact ⟨_, rfl, by (with_reducible repeat (first | apply Kd.R_alloc | apply Kd.R_drewN | apply Kd.R_drew)); exact HO222.out, HB.out⟩
  · rw [if_neg hl] at h; cases h


/-! ### bits_Mul32: function 49 -/
def bits_Mul32.f (a0 : Int) (a1 : Int) : Option (Int × Int) := some (((IntKind.u64.wrap ((IntKind.u64.wrap (a0)) * (IntKind.u64.wrap (a1)))) / 4294967296) % 4294967296, (IntKind.u64.wrap ((IntKind.u64.wrap (a0)) * (IntKind.u64.wrap (a1)))) % 4294967296)
set_option maxHeartbeats 8000000 in
set_option maxRecDepth 100000 in
theorem bits_Mul32.calls (a0 : Int) (a1 : Int) (r1 : Int) (r2 : Int) (w : World) (h : bits_Mul32.f a0 a1 = some (r1, r2)) :
    Calls Try.prog 49 #[.int .u32 a0, .int .u32 a1] w fun e w' => e = .returned (.tuple #[.int .u32 r1, .int .u32 r2]) ∧ Drawn0 w w' := by
  have H : (some (((IntKind.u64.wrap ((IntKind.u64.wrap (a0)) * (IntKind.u64.wrap (a1)))) / 4294967296) % 4294967296, (IntKind.u64.wrap ((IntKind.u64.wrap (a0)) * (IntKind.u64.wrap (a1)))) % 4294967296)) = some (r1, r2) := h
  clear h
  simp only [Option.some.injEq, Prod.mk.injEq] at H
  obtain ⟨rfl, rfl⟩ := H
  go_enter Try.func49, Try.ntmps49
  go_wp2
  go_ret2
  exact ⟨by first | rfl | (simp; done) | (simp [*]; done), by repeat (first | exact Drawn0.refl _ | apply Drawn0.step)⟩

/-! ### bits_Mul64: function 50 -/
def bits_Mul64.f (a0 : Int) (a1 : Int) : Option (Int × Int) := some (IntKind.u64.wrap ((IntKind.u64.wrap ((IntKind.u64.wrap ((a0 / 4294967296) * (a1 / 4294967296))) + ((IntKind.u64.wrap ((IntKind.u64.wrap ((a0 / 4294967296) * (Go.bits .and .u64 a1 4294967295))) + ((IntKind.u64.wrap ((Go.bits .and .u64 a0 4294967295) * (Go.bits .and .u64 a1 4294967295))) / 4294967296))) / 4294967296))) + ((IntKind.u64.wrap ((Go.bits .and .u64 (IntKind.u64.wrap ((IntKind.u64.wrap ((a0 / 4294967296) * (Go.bits .and .u64 a1 4294967295))) + ((IntKind.u64.wrap ((Go.bits .and .u64 a0 4294967295) * (Go.bits .and .u64 a1 4294967295))) / 4294967296))) 4294967295) + (IntKind.u64.wrap ((Go.bits .and .u64 a0 4294967295) * (a1 / 4294967296))))) / 4294967296)), IntKind.u64.wrap (a0 * a1))
set_option maxHeartbeats 8000000 in
set_option maxRecDepth 100000 in
theorem bits_Mul64.calls (a0 : Int) (a1 : Int) (r1 : Int) (r2 : Int) (w : World) (h : bits_Mul64.f a0 a1 = some (r1, r2)) :
    Calls Try.prog 50 #[.int .u64 a0, .int .u64 a1] w fun e w' => e = .returned (.tuple #[.int .u64 r1, .int .u64 r2]) ∧ Drawn0 w w' := by
  have H : (some (IntKind.u64.wrap ((IntKind.u64.wrap ((IntKind.u64.wrap ((a0 / 4294967296) * (a1 / 4294967296))) + ((IntKind.u64.wrap ((IntKind.u64.wrap ((a0 / 4294967296) * (Go.bits .and .u64 a1 4294967295))) + ((IntKind.u64.wrap ((Go.bits .and .u64 a0 4294967295) * (Go.bits .and .u64 a1 4294967295))) / 4294967296))) / 4294967296))) + ((IntKind.u64.wrap ((Go.bits .and .u64 (IntKind.u64.wrap ((IntKind.u64.wrap ((a0 / 4294967296) * (Go.bits .and .u64 a1 4294967295))) + ((IntKind.u64.wrap ((Go.bits .and .u64 a0 4294967295) * (Go.bits .and .u64 a1 4294967295))) / 4294967296))) 4294967295) + (IntKind.u64.wrap ((Go.bits .and .u64 a0 4294967295) * (a1 / 4294967296))))) / 4294967296)), IntKind.u64.wrap (a0 * a1))) = some (r1, r2) := h
  clear h
  simp only [Option.some.injEq, Prod.mk.injEq] at H
  obtain ⟨rfl, rfl⟩ := H
  go_enter Try.func50, Try.ntmps50
  go_wp2
  go_ret2
  exact ⟨by first | rfl | (simp; done) | (simp [*]; done), by repeat (first | exact Drawn0.refl _ | apply Drawn0.step)⟩

/-! ### bits_Mul: function 42 -/
def bits_Mul.f (a0 : Int) (a1 : Int) : Option (Int × Int) := (bits_Mul64.f a0 a1).bind fun bt102 => (some (bt102.1, bt102.2))
set_option maxHeartbeats 8000000 in
set_option maxRecDepth 100000 in
theorem bits_Mul.calls (a0 : Int) (a1 : Int) (r1 : Int) (r2 : Int) (w : World) (h : bits_Mul.f a0 a1 = some (r1, r2)) :
    Calls Try.prog 42 #[.int .u64 a0, .int .u64 a1] w fun e w' => e = .returned (.tuple #[.int .u64 r1, .int .u64 r2]) ∧ Drawn0 w w' := by
  have H : ((bits_Mul64.f a0 a1).bind fun bt102 => (some (bt102.1, bt102.2))) = some (r1, r2) := h
  clear h
  replace H := Option.bind_eq_some_iff.mp H
  obtain ⟨⟨t102, t103⟩, A30, H⟩ := H
  replace H : (some (t102, t103)) = some (r1, r2) := H
  have A3 := Aside0.mk A30
  clear A30
  simp only [Option.some.injEq, Prod.mk.injEq] at H
  obtain ⟨rfl, rfl⟩ := H
  go_enter Try.func42, Try.ntmps42
  go_wp2_with (first | ((with_reducible refine gate_callee (f := 50) rfl ?_); refine goesL_ (some 25) rfl rfl Try.func50 (by kernel_rfl) rfl #[.int .u64 a0, .int .u64 a1] rfl (by (try simp only [List.map_toArray, List.map_cons, List.map_nil]); first | done | rfl | (simp only [List.length_drop, List.length_take]; rfl)) ?_; (with_reducible refine (bits_Mul64.calls a0 a1 t102 t103 _ A3.out).mono ?_); rintro e w' ⟨rfl, ⟨nd, rfl⟩⟩; refine ⟨_, rfl, ?_⟩))
  go_ret2
  exact ⟨by first | rfl | (simp; done) | (simp [*]; done), by repeat (first | exact Drawn0.refl _ | apply Drawn0.step)⟩

/-! ### slices_Repeat_int_int: function 29 (given) -/
theorem rp_and32 {a : Int} (h : 0 ≤ a) (h' : a < 18446744073709551616) : Go.bits .and .u64 a 4294967295 = a % 4294967296 := by
 obtain ⟨n, rfl⟩ := Int.eq_ofNat_of_zero_le h
 have h2 : n < 18446744073709551616 := by omega
 have e := bits_and_u64_nat n 4294967295 h2 (by omega)
 have e2 : n &&& 4294967295 = n % 4294967296 := Nat.and_two_pow_sub_one_eq_mod n 32
 rw [e2] at e
 exact e
theorem rp_mul {n : Int} (h0 : 0 ≤ n) (h1 : n < 17592186044416) : bits_Mul.f 1 n = some (0, n) := by
 have e : bits_Mul64.f 1 n = some (0, n) := by
  unfold bits_Mul64.f
  simp only [show ∀ z : Int, IntKind.u64.wrap z = z % 18446744073709551616 from fun z => IntKind.wrap_u64 z]
  rw [rp_and32 (a := 1) (by omega) (by omega), rp_and32 (a := n) (by omega) (by omega), rp_and32 (by omega) (by omega)]
  simp only [Option.some.injEq, Prod.mk.injEq]
  constructor <;> omega
 unfold bits_Mul.f
 rw [e]
 rfl
/-- A row of one's own that fills its block. -/
theorem row_of_block {w : World} {B g : Nat} {ok : Nat → Prop} {xs : List Int} (h : w.heap[g]? = some (.cells (encs (Value.int .i64) xs).toArray 3 (0, 0))) (hB : B ≤ g) (hok : ok g) (hl : xs.length ≤ maxLen) :
  Kd.R (Kd.int .i64) 3 w B ok (.slice (some ⟨g, 0, none⟩) xs.length xs.length) xs := by
 refine Kd.R_of_own ⟨by simp [encs], .inr ⟨g, xs.length, _, rfl, hB, h, Nat.le_refl _, hl, by simp [encs], ?_⟩⟩ (fun k hk => ?_)
 ·simp only [encs, List.toList_toArray]
  exact List.take_of_length_le (by simp)
 ·simp [Value.ownBlock] at hk
  subst hk
  exact hok
def slices_Repeat_int_int.f (l0 : List Int) (a1 : Int) : Option (List Int) := if l0.length = 1 ∧ 0 ≤ a1 ∧ a1 < 17592186044416 then some (List.replicate a1.toNat (rd l0 0)) else none
/-- What is known of the row in a round: its first n elements are the one. -/
theorem rp_step {ys : List Int} {n : Nat} {v : Int} (hn : n ≤ ys.length) (hy : ys.take n = List.replicate n v) :
  (splice ys n (ys.take (Nat.min n (ys.length - n)))).take (n + Nat.min n (ys.length - n)) = List.replicate (n + Nat.min n (ys.length - n)) v := by
 have hk : Nat.min n (ys.length - n) ≤ n := Nat.min_le_left _ _
 have hk2 : Nat.min n (ys.length - n) ≤ ys.length - n := Nat.min_le_right _ _
 generalize Nat.min n (ys.length - n) = k at hk hk2
 have e : ys.take k = List.replicate k v := by
  have := congrArg (List.take k) hy
  rw [List.take_take, Nat.min_eq_left hk, List.take_replicate, Nat.min_eq_left hk] at this
  exact this
 unfold splice
 rw [e, hy, ← List.append_assoc, List.take_append_of_le_length (by simp)]
 rw [← List.replicate_append_replicate]
 exact List.take_of_length_le (by simp)
theorem run_make22 (m : Nat) (hm : (m : Int) < 17592186044416) (W : World) : (Instr.makeSlice 22 (.int .i64 (m : Int)) (.int .i64 (m : Int))).run Try.prog W = .ok (.slice (some ⟨W.heap.size, 0, none⟩) m m) (W.alloc (.cells (encs (Value.int .i64) (List.replicate m 0)).toArray 3)) := by
 obtain ⟨i0, hi, hz0, hz1, hz2⟩ := info_parts info3
 have h := run_make (P := Try.prog) W 22 3 i0 (.int .i64 0) Try.underlying22 hi hz0 .i64 .i64 (m : Int) (m : Int) (by omega) (by omega) (by rw [hz2]; omega) (by omega)
 rw [h, hz1]
 congr 2
 simp only [Int.toNat_natCast]
 congr 1
 apply Array.ext
 ·simp [size_madeCells, encs]
 ·intro i h1 h2
  simp [madeCells, encs, Value.cells, Nat.mod_one]
theorem size3 : (Try.prog.info? 3).map (·.size) = some 1 := by
 obtain ⟨i0, hi, hz0, hz1, hz2⟩ := info_parts info3
 rw [hi]
 simp [hz1]
theorem encs_one {xs : List Int} {v : Value} (h : v ∈ encs (Value.int .i64) xs) : v.oneCell' = true := by
 obtain ⟨x, _, rfl⟩ := List.mem_map.mp h
 rfl
theorem encs_splice (xs ys : List Int) (n : Nat) : splice (encs (Value.int .i64) xs) n (encs (Value.int .i64) ys) = encs (Value.int .i64) (splice xs n ys) := by
 simp [splice, encs, List.map_take, List.map_drop]
theorem rp_src {W : World} {A0 : Option Addr} {v : Int} {g m : Nat} (h : Kd.C (Kd.int .i64) W A0 [v].length [v]) :
  0 < (encs (Value.int .i64) (List.replicate (Nat.min 1 m) v)).length → (some (⟨g, 0, none⟩ : Addr)) = some ⟨g, 0, none⟩ ∧ ∃ ad, A0 = some ad ∧ ∀ (j : Nat) (u : Value), (encs (Value.int .i64) (List.replicate (Nat.min 1 m) v))[j]? = some u → W.cell? (ad.add j) = some u := by
 intro _
 obtain ⟨ad, ha, hc⟩ := Kd.at_int h 0 (by omega) (by simp)
 refine ⟨rfl, ad, ha, fun j u hj => ?_⟩
 have hm : Nat.min 1 m ≤ 1 := Nat.min_le_left _ _
 simp [encs, List.getElem?_replicate] at hj
 obtain ⟨h1, rfl⟩ := hj
 obtain rfl : j = 0 := by omega
 exact hc
structure RpInv (w : World) (m g : Nat) (v : Int) (n : Nat) (ys : List Int) (wr : World) : Prop where
 len : ys.length = m
 le : n ≤ m
 pos : m = 0 ∨ 0 < n
 all : ys.take n = List.replicate n v
 blk : wr.heap[g]? = some (.cells (encs (Value.int .i64) ys).toArray 3 (0, 0))
 bel : Below w.heap.size w wr
theorem rp_from {g m n : Nat} (hm : m < 9223372036854775807) (h : n < m) : ∀ W : World, (Instr.slice 22 (.slice (some ⟨g, 0, none⟩) m m) (some (.int .i64 (n : Int))) none none).run Try.prog W = .ok (.slice (some ⟨g, n, none⟩) (m - n) (m - n)) W := by
 obtain ⟨i0, hi, hz0, hz1, hz2⟩ := info_parts info3
 intro W
 have e := cut_from (P := Try.prog) 22 3 .i64 Try.underlying22 hi 1 hz1 (some ⟨g, 0, none⟩) m m (n : Int) (by omega) (by omega) W
 rw [e]
 have : ¬ m = (n : Int).toNat := by simp; omega
 rw [if_neg this]
 simp only [Int.toNat_natCast, Nat.mul_one, Option.map_some]
 congr 2
 unfold Addr.add
 split
 ·simp_all
 ·simp
theorem rp_to {g m n : Nat} (h : n ≤ m) : ∀ W : World, (Instr.slice 22 (.slice (some ⟨g, 0, none⟩) m m) none (some (.int .i64 (n : Int))) none).run Try.prog W = .ok (.slice (some ⟨g, 0, none⟩) n m) W := by
 obtain ⟨i0, hi, hz0, hz1, hz2⟩ := info_parts info3
 intro W
 have e := cut_to (P := Try.prog) 22 3 .i64 Try.underlying22 hi (some ⟨g, 0, none⟩) m m (n : Int) (by omega) (by omega) (Nat.le_refl _) W
 rw [e]
 rfl
theorem rp_len {w W : World} {m g n : Nat} {v : Int} {ys : List Int} (h : RpInv w m g v n ys W) : (encs (Value.int .i64) (ys.take (Nat.min n (m - n)))).length = Nat.min n (m - n) := by
 have := h.len
 have := h.le
 have h2 : Nat.min n (m - n) ≤ n := Nat.min_le_left _ _
 simp only [encs, List.length_map, List.length_take]
 omega
theorem rp_fit {w W : World} {m g n : Nat} {v : Int} {ys : List Int} (h : RpInv w m g v n ys W) : n + (encs (Value.int .i64) (ys.take (Nat.min n (m - n)))).length ≤ (encs (Value.int .i64) ys).length := by
 rw [rp_len h]
 have := h.len
 have := h.le
 have h2 : Nat.min n (m - n) ≤ m - n := Nat.min_le_right _ _
 simp only [encs, List.length_map]
 omega
theorem rp_src2 {w W : World} {m g n : Nat} {v : Int} {ys : List Int} (h : RpInv w m g v n ys W) :
  0 < (encs (Value.int .i64) (ys.take (Nat.min n (m - n)))).length → (some (⟨g, n, none⟩ : Addr)) = some ⟨g, n, none⟩ ∧ ∃ ad, (some (⟨g, 0, none⟩ : Addr)) = some ad ∧ ∀ (j : Nat) (u : Value), (encs (Value.int .i64) (ys.take (Nat.min n (m - n))))[j]? = some u → W.cell? (ad.add j) = some u := by
 intro _
 refine ⟨rfl, _, rfl, fun j u hj => ?_⟩
 have hj2 : j < n := by
  have := (List.getElem?_eq_some_iff.1 hj).1
  rw [rp_len h] at this
  have h2 : Nat.min n (m - n) ≤ n := Nat.min_le_left _ _
  omega
 have hj3 : (encs (Value.int .i64) ys)[j]? = some u := by
  have hlt := (List.getElem?_eq_some_iff.1 hj).1
  rw [rp_len h] at hlt
  rw [← hj]
  simp only [encs, List.getElem?_map, List.getElem?_take, hlt, if_true]
 have e : (⟨g, 0, none⟩ : Addr).add j = ⟨g, j, none⟩ := by
  unfold Addr.add
  split
  ·simp_all
  ·simp
 rw [e]
 have hx := blk_cell h.blk j
 rw [hx]
 simpa using hj3
theorem rp_next {w W W' : World} {m g n : Nat} {v : Int} {ys : List Int} (h : RpInv w m g v n ys W) (hlt : n < m) (hg : Hid (W'.heap[g]? = some (.cells (splice (encs (Value.int .i64) ys) n (encs (Value.int .i64) (ys.take (Nat.min n (m - n))))).toArray 3 (0, 0)))) (hb : Below w.heap.size w W') :
  RpInv w m g v (n + Nat.min n (m - n)) (splice ys n (ys.take (Nat.min n (m - n)))) W' := by
 have h1 := h.len
 have h2 : Nat.min n (m - n) ≤ m - n := Nat.min_le_right _ _
 have h3 : Nat.min n (m - n) ≤ n := Nat.min_le_left _ _
 refine ⟨?_, by omega, ?_, ?_, ?_, hb⟩
 ·rw [length_splice _ _ _ (by rw [List.length_take]; omega)]
  exact h1
 ·rcases h.pos with e | e
  ·exact .inl e
  ·exact .inr (by omega)
 ·have := rp_step (ys := ys) (n := n) (v := v) (by omega) h.all
  rw [h1] at this
  exact this
 ·rw [← encs_splice]
  exact hg.out
theorem rp_start {w W : World} {m g : Nat} {v : Int} (h : Hid (W.heap[g]? = some (.cells (splice (encs (Value.int .i64) (List.replicate m 0)) 0 (encs (Value.int .i64) (List.replicate (Nat.min 1 m) v))).toArray 3 (0, 0)))) (hb : Below w.heap.size w W) :
  RpInv w m g v (Nat.min 1 m) (splice (List.replicate m 0) 0 (List.replicate (Nat.min 1 m) v)) W := by
 have hm : Nat.min 1 m ≤ m := Nat.min_le_right _ _
 refine ⟨by rw [length_splice _ _ _ (by simpa using hm)]; simp, hm, ?_, by simp [splice], ?_, hb⟩
 ·cases m with
  | zero => exact .inl rfl
  | succ m => exact .inr (by show 0 < min 1 (m + 1); omega)
 ·rw [← encs_splice]
  exact h.out
set_option maxHeartbeats 8000000 in
set_option maxRecDepth 100000 in
theorem slices_Repeat_int_int.calls (A0 : Option Addr) (c0 : Nat) (l0 : List Int) (a1 : Int) (r : List Int) (w : World) (hr0 : Kd.C (Kd.int .i64) w A0 l0.length l0) (hc0 : l0.length ≤ c0) (h : slices_Repeat_int_int.f l0 a1 = some r) :
  Calls Try.prog 29 #[.slice A0 l0.length c0, .int .i64 a1] w fun e w' => ∃ v0_ : Value, e = .returned v0_ ∧ Kd.R (Kd.int .i64) 3 w' w.heap.size (fun _ => True) v0_ r ∧ Below w.heap.size w w' := by
 unfold slices_Repeat_int_int.f at h
 split at h
 case isFalse => cases h
 case isTrue hh =>
 obtain ⟨h1, h2, h3⟩ := hh
 obtain rfl := Option.some.inj h
 clear h
 obtain ⟨v, rfl⟩ : ∃ v, l0 = [v] := List.length_eq_one_iff.mp h1
 clear h1
 have HM := Aside0.mk (rp_mul h2 h3)
 have HR := Aside0.mk hr0
 clear hr0
 obtain ⟨m, rfl⟩ := Int.eq_ofNat_of_zero_le h2
 have b1 : decide ((m : Int) < 0) = false := by simp
 have HL := Aside0.mk h3
 clear h2 h3
 have ew : IntKind.u64.wrap (m : Int) = (m : Int) := by have := HL.out; rw [IntKind.wrap_u64]; omega
 have EW := Aside0.mk ew
 clear ew
 go_enter Try.func29, Try.ntmps29
 go_wp2_with fail
 rw [EW.out]
 refine (bits_Mul.calls 1 (m : Int) 0 (m : Int) _ HM.out).mono ?_
 rintro e w1 ⟨rfl, hd1⟩
 have b2 : decide ((9223372036854775807 : Int) < (m : Int)) = false := by have := HL.out; simp; omega
 have ei : wrap64 (m : Int) = (m : Int) := by have := HL.out; unfold wrap64; omega
 have EI := Aside0.mk ei
 clear ei
 have HD := Aside0.mk hd1
 clear hd1
 have hmk : (Instr.makeSlice 22 (.int .i64 (wrap64 (m : Int))) (.int .i64 (wrap64 (m : Int)))).run Try.prog w1 = .ok (.slice (some ⟨w1.heap.size, 0, none⟩) m m) (w1.alloc (.cells (encs (Value.int .i64) (List.replicate m 0)).toArray 3)) := by
  rw [EI.out]
  exact run_make22 m HL.out w1
 obtain ⟨W2, hW2⟩ : ∃ W2, W2 = w1.alloc (.cells (encs (Value.int .i64) (List.replicate m 0)).toArray 3) := ⟨_, rfl⟩
 rw [← hW2] at hmk
 have HW2 := Aside0.mk hW2
 clear hW2
 have hB1 : Below w.heap.size w w1 := HD.out.below
 have hgs : w.heap.size ≤ w1.heap.size := hB1.size
 have HB := Aside0.mk (show Below w.heap.size w W2 by rw [HW2.out]; exact below_alloc hB1 _)
 have HG := Aside0.mk (show W2.heap[w1.heap.size]? = some (.cells (encs (Value.int .i64) (List.replicate m 0)).toArray 3 (0, 0)) by rw [HW2.out]; exact blk_new _ _)
 have HGS := Aside0.mk hgs
 obtain ⟨g, hg⟩ : ∃ g, g = w1.heap.size := ⟨_, rfl⟩
 rw [← hg] at hmk HG HGS
 clear hB1 hgs hg HW2 HM EI EW HD
 have HR2 := Aside0.mk (Kd.C_below HR.out HB.out)
 clear HR
 go_wp2_with (((with_reducible refine gate_builtin (b := .copy) (xs := #[.tmp 31, .tmp 32]) rfl ?_); go_loud (refine wpList_copy_splice rfl (.tmp 31) (.tmp 32) 22 22 rfl 3 Try.underlying22 size3 _ _ _ _ _ _ rfl rfl g 0 (encs (Value.int .i64) (List.replicate m 0)) 3 HG.out (encs (Value.int .i64) (List.replicate (Nat.min 1 m) v)) (by simp [encs]) (rp_src HR2.out) (by simp only [encs, List.length_map, List.length_replicate, Nat.zero_add]; exact Nat.min_le_right 1 m) (fun v_ hv_ => encs_one hv_) w.heap.size w HB.out HGS.out ?_); intro w3 HG3 hB3))
 go_loopg [8] m (fun kq v8 wr => ∃ (n : Nat) (ys : List Int), v8 = .int .i64 (n : Int) ∧ Aside0 (RpInv w m g v n ys wr) ∧ Aside0 (m ≤ kq + n))
 case atStart =>
  refine ⟨Nat.min 1 m, _, by simp [encs, goInt], ⟨rp_start HG3 hB3⟩, ⟨by omega⟩⟩
 case round =>
  obtain ⟨n, ys, rfl, HI, HK⟩ := hrel
  by_cases hlt : n < m
  ·have t1 : decide ((n : Int) < (m : Int)) = true := by simp; omega
   have t0 : decide (n < m) = true := decide_eq_true hlt
   have c1 := rp_from (g := g) (by have := HL.out; omega) hlt
   have c2 := rp_to (g := g) (Nat.le_of_lt hlt)
   have t2 : IntKind.i64.wrap ((n : Int) + ((Nat.min n (m - n) : Nat) : Int)) = ((n + Nat.min n (m - n) : Nat) : Int) := by
    have h1 := HL.out
    have h2 : Nat.min n (m - n) ≤ m - n := Nat.min_le_right _ _
    rw [IntKind.wrap_i64]
    omega
   have EI := Aside0.mk t2
   clear t2
   have HT := Aside0.mk hlt
   have HI2 := Aside0.mk (show RpInv w m g v n ys wr.drew from ⟨HI.out.len, HI.out.le, HI.out.pos, HI.out.all, HI.out.blk, below_drew1 HI.out.bel⟩)
   clear hlt hmk
   go_wp2_with fail
   go_region_law (go_loud (refine step_copy_splice rfl (.tmp 41) (.tmp 44) 22 22 rfl 3 Try.underlying22 size3 (some ⟨g, n, none⟩) (some ⟨g, 0, none⟩) (m - n) (m - n) n m (by simp [Act.eval, Act.put]) (by simp [Act.eval, Act.put]) g n (encs (Value.int .i64) ys) 3 HI2.out.blk (encs (Value.int .i64) (ys.take (Nat.min n (m - n)))) (rp_len HI2.out) (rp_src2 HI2.out) (rp_fit HI2.out) (fun v_ hv_ => encs_one hv_) w.heap.size w HI2.out.bel HGS.out ?_); intro w4 HG4 hB4)
   all_goals go_wp2_with fail
   obtain ⟨k1, rfl⟩ : ∃ k1, gk = k1 + 1 := ⟨gk - 1, by have := HK.out; have := HT.out; omega⟩
   go_roundg k1
   case measure => omega
   case rel =>
    refine ⟨n + Nat.min n (m - n), _, ?_, ⟨rp_next HI.out HT.out HG4 hB4⟩, ⟨?_⟩⟩
    ·rw [rp_len HI.out, EI.out]
    ·have h1 := HK.out
     have h2 := HT.out
     have h3 : 0 < n := by have := HI.out.pos; omega
     have h4 : 0 < Nat.min n (m - n) := by show 0 < min n (m - n); omega
     omega
  ·have t1 : decide ((n : Int) < (m : Int)) = false := by simp; omega
   have t0 : decide (n < m) = false := decide_eq_false hlt
   have HT := Aside0.mk hlt
   clear hlt hmk
   go_wp2_with fail
   obtain rfl : n = m := by have := HI.out.le; have := HT.out; omega
   have hall := HI.out.all
   rw [List.take_of_length_le (by rw [HI.out.len]; exact Nat.le_refl _)] at hall
   subst hall
   go_ret
   refine ⟨_, rfl, ?_, HI.out.bel⟩
   have hR := row_of_block (ok := fun _ => True) HI.out.blk HGS.out trivial (by rw [HI.out.len]; have := HL.out; simp [maxLen]; omega)
   simpa [rd] using hR


/-! ### shape_Size: function 30 -/
def shape_Size.l0 : Nat → Int → List Int → Int → Int → Option (Int)
  | 0, _, _, _, _ => none
  | k + 1, x3, x9, x10, x11 => if x11 < x10 then (if 0 ≤ x11 then (if x11 < (x9.length : Int) then (shape_Size.l0 k (wrap64 (x3 * (rd x9 x11))) x9 x10 (wrap64 (x11 + 1))) else (none)) else (none)) else (some x3)
def shape_Size.f (k : Nat) (l0 : List Int) : Option (Int) := (shape_Check.f k l0).bind fun t104 => (if t104 = true then (shape_Size.l0 k 1 l0 (l0.length : Int) 0) else (some 0))
theorem shape_Size.mono_l : ∀ k, (∀ y0 y1 y2 y3, LeO (shape_Size.l0 k y0 y1 y2 y3) (shape_Size.l0 (k + 1) y0 y1 y2 y3))
  | 0 => fun _ _ _ _ r h => by simp [shape_Size.l0] at h
  | k + 1 => by
    have ih0 := shape_Size.mono_l k
    · intro y0 y1 y2 y3
      unfold shape_Size.l0
      repeat' first
      | (with_reducible exact ih0 _ _ _ _)
      | (with_reducible exact shape_Check.mono _ _)
      | (with_reducible exact LeO.refl _)
      | (with_reducible exact LeO.none _)
      | (with_reducible refine LeO.ite ?_ ?_)
      | (with_reducible refine LeO.bind ?_ (fun _ => ?_))
      | exact ih0 _ _ _ _
      | exact shape_Check.mono _ _
      | exact LeO.none _
      | refine LeO.ite ?_ ?_
      | refine LeO.bind ?_ (fun _ => ?_)
theorem shape_Size.mono : ∀ a0 k, LeO (shape_Size.f k a0) (shape_Size.f (k + 1) a0) := by
  intro a0 k
  have ih0 := shape_Size.mono_l k
  unfold shape_Size.f
  repeat' first
      | (with_reducible exact ih0 _ _ _ _)
      | (with_reducible exact shape_Check.mono _ _)
      | (with_reducible exact LeO.refl _)
      | (with_reducible exact LeO.none _)
      | (with_reducible refine LeO.ite ?_ ?_)
      | (with_reducible refine LeO.bind ?_ (fun _ => ?_))
      | exact ih0 _ _ _ _
      | exact shape_Check.mono _ _
      | exact LeO.none _
      | refine LeO.ite ?_ ?_
      | refine LeO.bind ?_ (fun _ => ?_)
set_option maxHeartbeats 8000000 in
set_option maxRecDepth 100000 in
theorem shape_Size.calls (k : Nat) (A0 : Option Addr) (c0 : Nat) (l0 : List Int) (r : Int) (w : World) (hr0 : Kd.C (Kd.int .i64) w A0 l0.length l0) (hc0 : l0.length ≤ c0) (h : shape_Size.f k l0 = some r) :
    Calls Try.prog 30 #[.slice A0 l0.length c0] w fun e w' => e = .returned (.int .i64 r) ∧ Drawn0 w w' := by
  have HR0 := Aside0.mk hr0
  have HC0 := Aside0.mk hc0
  clear hr0 hc0
  have H : ((shape_Check.f k l0).bind fun t104 => (if t104 = true then (shape_Size.l0 k 1 l0 (l0.length : Int) 0) else (some 0))) = some r := h
  clear h
  replace H := Option.bind_eq_some_iff.mp H
  obtain ⟨t104, A20, H⟩ := H
  replace H : (if t104 = true then (shape_Size.l0 k 1 l0 (l0.length : Int) 0) else (some 0)) = some r := H
  have A2 := Aside0.mk A20
  clear A20
  by_cases c3 : t104 = true
  · subst c3
    have H1 : (shape_Size.l0 k 1 l0 (l0.length : Int) 0) = some r := by rw [if_pos rfl] at H; exact H
    clear H
    have H := H1
    clear H1
    have H' := Aside0.mk H
    clear H
    go_enter Try.func30, Try.ntmps30
    go_wp2_with (first | ((with_reducible refine gate_callee (f := 25) rfl ?_); refine goesL_ (some 7) rfl rfl Try.func25 (by kernel_rfl) rfl #[.slice A0 l0.length c0] rfl (by (try simp only [List.map_toArray, List.map_cons, List.map_nil]); first | done | rfl | (simp only [List.length_drop, List.length_take]; rfl)) ?_; (with_reducible refine (shape_Check.calls k _ _ l0 true _ ?side1 ?side2 A2.out).mono ?_); (case side1 => repeat (first | exact HR0.out | (with_reducible refine Kd.C_alloc ?_ _) | (with_reducible refine Kd.C_drewN ?_ _) | (with_reducible refine Kd.C_drew ?_))); (case side2 => exact HC0.out); rintro e w' ⟨rfl, ⟨nd, rfl⟩⟩; refine ⟨_, rfl, ?_⟩))
    go_loopg [3, 11] k (fun kq v3 v11 w' => ∃ (x3_1 : Int) (x11_1 : Int), v3 = .int .i64 x3_1 ∧ v11 = .int .i64 x11_1 ∧ Aside0 (shape_Size.l0 kq x3_1 l0 (l0.length : Int) x11_1 = some r) ∧ Aside0 (kq ≤ k) ∧ Drawn0 w w')
    case atStart => exact ⟨(1), (0), (by first | rfl | (simp; done) | (simp [*]; done)), (by first | rfl | (simp; done) | (simp [*]; done)), H', ⟨Nat.le_refl _⟩, by repeat (first | exact Drawn0.refl _ | apply Drawn0.step)⟩
    case round =>
      clear H'
      try clear c2
      try clear p2
      try clear c3
      obtain ⟨x3_1, x11_1, rfl, rfl, HA, HK1, ⟨m1, rfl⟩⟩ := hrel
      cases gk with
      | zero => exact absurd HA.out (by simp [shape_Size.l0])
      | succ k1 =>
        have H := HA.out
        clear HA
        simp only [shape_Size.l0] at H
        by_cases c4 : x11_1 < (l0.length : Int)
        · rw [if_pos c4] at H
          have c4b0 : decide (x11_1 < (l0.length : Int)) = true := decide_eq_true c4
          clear c4
          by_cases c5 : 0 ≤ x11_1
          · rw [if_pos c5] at H
            have c5b0 : decide (0 ≤ x11_1) = true := decide_eq_true c5
            clear c5
            by_cases c6 : x11_1 < (l0.length : Int)
            · rw [if_pos c6] at H
              have c6b0 : decide (x11_1 < (l0.length : Int)) = true := decide_eq_true c6
              clear c6
              have H' := Aside0.mk H
              clear H
              have p105 : 0 ≤ (x11_1 : Int) := of_decide_eq_true (by first | (with_reducible assumption) | assumption)
              have q105 : x11_1 < (l0.length : Int) := of_decide_eq_true (by first | (with_reducible assumption) | assumption)
              obtain ⟨ad105, e105, hx105_0⟩ := Kd.at_int HR0.out x11_1 p105 q105
              cases e105
              replace p105 := eq_true p105
              replace q105 := eq_true q105
              go_wp2
              go_roundg k1
              case measure => have := HK1.out; omega
              case rel => exact ⟨(wrap64 (x3_1 * (rd l0 x11_1))), (wrap64 (x11_1 + 1)), (by first | rfl | (simp; done) | (simp [*]; done)), (by first | rfl | (simp; done) | (simp [*]; done)), H', ⟨by have := HK1.out; omega⟩, by repeat (first | exact Drawn0.refl _ | apply Drawn0.step)⟩
            · rw [if_neg c6] at H
              exact absurd H (by simp)
          · rw [if_neg c5] at H
            exact absurd H (by simp)
        · rw [if_neg c4] at H
          have c4b0 : decide (x11_1 < (l0.length : Int)) = false := decide_eq_false c4
          clear c4
          obtain rfl := Option.some.inj H
          go_wp2
          go_ret
          exact ⟨by first | rfl | (simp; done) | (simp [*]; done), by repeat (first | exact Drawn0.refl _ | apply Drawn0.step)⟩
  · replace c3 := Bool.eq_false_iff.mpr c3
    subst c3
    have H1 : (some 0) = some r := by rw [if_neg (show ¬ (false = true) by decide)] at H; exact H
    clear H
    have H := H1
    clear H1
    obtain rfl := Option.some.inj H
    go_enter Try.func30, Try.ntmps30
    go_wp2_with (first | ((with_reducible refine gate_callee (f := 25) rfl ?_); refine goesL_ (some 7) rfl rfl Try.func25 (by kernel_rfl) rfl #[.slice A0 l0.length c0] rfl (by (try simp only [List.map_toArray, List.map_cons, List.map_nil]); first | done | rfl | (simp only [List.length_drop, List.length_take]; rfl)) ?_; (with_reducible refine (shape_Check.calls k _ _ l0 false _ ?side1 ?side2 A2.out).mono ?_); (case side1 => repeat (first | exact HR0.out | (with_reducible refine Kd.C_alloc ?_ _) | (with_reducible refine Kd.C_drewN ?_ _) | (with_reducible refine Kd.C_drew ?_))); (case side2 => exact HC0.out); rintro e w' ⟨rfl, ⟨nd, rfl⟩⟩; refine ⟨_, rfl, ?_⟩))
    go_ret
    exact ⟨by first | rfl | (simp; done) | (simp [*]; done), by repeat (first | exact Drawn0.refl _ | apply Drawn0.step)⟩

/-! ### tensor_Full: function 11 (given) -/
/-- A store into a block that is elder than all of a row's. -/
theorem tn_off {α : Type} {d : Kd α} {e : Nat} {w : World} {B : Nat} {ok : Nat → Prop} {v : Value} {xs : List α} (h : d.R e w B ok v xs) {g : Nat} (hg : g < B) (j : Nat) (u : Value) : d.R e (w.setCell ⟨g, j, none⟩ u) B ok v xs :=
  Kd.R_mono (Kd.R_far (p := ⟨g, j, none⟩) (Kd.R_bound h) (fun k hk => by have := hk.2.1; simp only; omega) u) (fun _ hk => hk.1)
theorem tn_alloc_step {w W : World} {o : Obj} (h : Below (w.alloc o).heap.size (w.alloc o) W) : Below w.heap.size w W :=
  below_step (below_alloc (Below.refl _ _) o) h
theorem clone_self {l : List Int} (h : l.length < 17592186044416) : slices_Clone_int_int.f l = some l := by
  unfold slices_Clone_int_int.f
  simp [h]
theorem tn_one {W : World} {g : Nat} {a : Int} (h : W.heap[g]? = some (.cells #[.int .i64 a] 3 (0, 0))) : Kd.C (Kd.int .i64) W (some ⟨g, 0, none⟩) [a].length [a] :=
  (Kd.R_reads' (row_of_block (B := 0) (ok := fun _ => True) (xs := [a]) h (Nat.zero_le _) trivial (by simp [maxLen]))).2.2
theorem tn_rep {n a : Int} (h : 0 ≤ n) (h' : n < 17592186044416) : slices_Repeat_int_int.f [a] n = some (List.replicate n.toNat a) := by
  unfold slices_Repeat_int_int.f
  rw [if_pos ⟨rfl, h, h'⟩]
  rfl
def tensor_Full.f (k : Nat) (l0 : List Int) (a1 : Int) : Option (List Int × List Int × Int) :=
  (shape_Check.f k l0).bind fun ok => if ok = true then ((shape_Size.f k l0).bind fun n => if 0 ≤ n ∧ n < 17592186044416 ∧ l0.length < 17592186044416 then some (l0, List.replicate n.toNat a1, 0) else none) else some ([], [], 20)
set_option maxHeartbeats 8000000 in
set_option maxRecDepth 100000 in
theorem tensor_Full.calls (k : Nat) (A0 : Option Addr) (c0 : Nat) (l0 : List Int) (a1 : Int) (r1 r2 : List Int) (r3 : Int) (w : World) (hr0 : Kd.C (Kd.int .i64) w A0 l0.length l0) (hc0 : l0.length ≤ c0) (h : tensor_Full.f k l0 a1 = some (r1, r2, r3)) :
    Calls Try.prog 11 #[.slice A0 l0.length c0, .int .i64 a1] w fun e w' => ∃ v0_ v1_ : Value, e = .returned (.tuple #[.agg #[v0_, v1_], .int .i64 r3]) ∧ Kd.R (Kd.int .i64) 3 w' w.heap.size (fun k_ => some k_ ≠ (v1_ : Value).ownBlock) v0_ r1 ∧ Kd.R (Kd.int .i64) 3 w' w.heap.size (fun k_ => some k_ ≠ (v0_ : Value).ownBlock) v1_ r2 ∧ Below w.heap.size w w' := by
  unfold tensor_Full.f at h
  obtain ⟨ok, hck, h'⟩ := Option.bind_eq_some_iff.mp h
  clear h
  have HR := Aside0.mk hr0
  have HC := Aside0.mk hc0
  have HCK := Aside0.mk hck
  clear hr0 hc0 hck
  cases ok with
  | false =>
    simp only [if_false, Bool.false_eq_true] at h'
    have h2 := Option.some.inj h'
    simp only [Prod.mk.injEq] at h2
    obtain ⟨rfl, rfl, rfl⟩ := h2
    clear h'
    go_enter Try.func11, Try.ntmps11
    go_wp2_with fail
    refine (shape_Check.calls k A0 c0 l0 false _ (Kd.C_below HR.out (below_alloc (Below.refl _ _) _)) HC.out HCK.out).mono ?_
    rintro e w1 ⟨rfl, hd1⟩
    have BK := Aside0.mk (blk_below (blk_new _ _) hd1.below)
    have HB := Aside0.mk (tn_alloc_step hd1.below)
    clear hd1
    have y0 := blk_frozen BK.out 0
    have y1 := blk_frozen BK.out 1
    have x0 : w1.cell? ⟨w.heap.size, 0, none⟩ = some (.slice none 0 0) := (blk_cell BK.out 0).trans rfl
    have x1 : w1.cell? ⟨w.heap.size, 1, none⟩ = some (.slice none 0 0) := (blk_cell BK.out 1).trans rfl
    go_wp2_with fail
    refine bodyPost_ret (results_ct rfl _ _ w.heap.size 24 #[.slice none 0 0, .slice none 0 0] (0, 0) _ rfl (blk_put (cs := #[.slice none 0 0, .slice none 0 0]) (blk_put (cs := #[.slice none 0 0, .slice none 0 0]) BK.out 0 _ rfl) 1 _ rfl) Try.underlying24 rfl (by kernel_rfl)) rfl ?_
    exact ⟨_, _, rfl, Kd.R_nil _ _ _ _ _, Kd.R_nil _ _ _ _ _, (HB.out.setCell (p := ⟨w.heap.size, 0, none⟩) (Nat.le_refl _) _).setCell (p := ⟨w.heap.size, 1, none⟩) (Nat.le_refl _) _⟩
  | true =>
    simp only [if_true] at h'
    obtain ⟨n, hn, h⟩ := Option.bind_eq_some_iff.mp h'
    clear h'
    split at h
    case isFalse => cases h
    case isTrue hh =>
    have h2 := Option.some.inj h
    simp only [Prod.mk.injEq] at h2
    obtain ⟨rfl, rfl, rfl⟩ := h2
    clear h
    obtain ⟨L, hL⟩ : ∃ L, L = List.replicate n.toNat a1 := ⟨_, rfl⟩
    rw [← hL]
    have HLs := Aside0.mk hL
    clear hL
    have HN := Aside0.mk hn
    have HH := Aside0.mk hh
    clear hn hh
    go_enter Try.func11, Try.ntmps11
    go_wp2_with fail
    refine (shape_Check.calls k A0 c0 l0 true _ (Kd.C_below HR.out (below_alloc (Below.refl _ _) _)) HC.out HCK.out).mono ?_
    rintro e w1 ⟨rfl, hd1⟩
    have BK := Aside0.mk (blk_below (blk_new _ _) hd1.below)
    have HB := Aside0.mk (tn_alloc_step hd1.below)
    clear hd1
    go_wp2_with fail
    refine (slices_Clone_int_int.calls A0 c0 l0 l0 _ (Kd.C_below HR.out HB.out) HC.out (clone_self HH.out.2.2)).mono ?_
    rintro e w2 ⟨v1, rfl, hR1, hb2⟩
    have HL := Aside0.mk (blk_lt BK.out)
    have HL2 := Aside0.mk hb2.size
    replace BK := Aside0.mk (blk_below BK.out hb2)
    replace HB := Aside0.mk (below_step HB.out hb2)
    have HR1 := Aside0.mk hR1
    clear hR1 hb2
    obtain ⟨A1, c1, rfl⟩ := Kd.R_slice HR1.out
    go_wp2_with fail
    have HB3 := Aside0.mk (show Below w.heap.size w (w2.alloc (.cells #[.int .i64 a1] 3)) from HB.out.alloc HB.out.size _)
    refine (shape_Size.calls k A0 c0 l0 n _ (Kd.C_below HR.out HB3.out) HC.out HN.out).mono ?_
    rintro e w4 ⟨rfl, hd4⟩
    have hb4 := hd4.below
    have hN := blk_below (blk_new w2 (.cells #[.int .i64 a1] 3)) hb4
    replace BK := Aside0.mk (blk_below (blk_alloc BK.out _) hb4)
    replace HB := Aside0.mk (below_step HB3.out hb4)
    replace HR1 := Aside0.mk (Kd.R_below HR1.out (tn_alloc_step hb4))
    have HL4 := Aside0.mk (Nat.le_trans (Nat.le_of_lt (by simp : w2.heap.size < (w2.alloc (.cells #[.int .i64 a1] 3)).heap.size)) hb4.size)
    have HN4 := Aside0.mk hN
    clear hd4 hb4 hN HB3
    go_wp2_with fail
    refine (slices_Repeat_int_int.calls (some ⟨w2.heap.size, 0, none⟩) 1 [a1] n L _ (tn_one HN4.out) (Nat.le_refl _) (by rw [HLs.out]; exact tn_rep HH.out.1 HH.out.2.1)).mono ?_
    rintro e w5 ⟨v2, rfl, hR2, hb5⟩
    replace BK := Aside0.mk (blk_below BK.out hb5)
    replace HB := Aside0.mk (below_step HB.out hb5)
    have HR2 := Aside0.mk (Kd.R_mono (ok' := fun k_ => some k_ ≠ (Value.slice A1 l0.length c1 : Value).ownBlock) (Kd.R_bound hR2) (fun k_ hk_ he_ => absurd (Kd.R_lt HR1.out k_ he_.symm) (by have := hk_.2.1; omega)))
    replace HR1 := Aside0.mk (Kd.R_mono (ok' := fun k_ => some k_ ≠ (v2 : Value).ownBlock) (Kd.R_below (Kd.R_bound HR1.out) hb5) (fun k_ hk_ he_ => absurd (Kd.R_base hR2 k_ he_.symm) (by have := hk_.2.2.1; omega)))
    obtain ⟨A2, c2, rfl⟩ := Kd.R_slice HR2.out
    clear hR2 hb5 HN4
    have y0 := blk_frozen BK.out 0
    have y1 := blk_frozen BK.out 1
    have x0 : w5.cell? ⟨w.heap.size, 0, none⟩ = some (.slice none 0 0) := (blk_cell BK.out 0).trans rfl
    have x1 : w5.cell? ⟨w.heap.size, 1, none⟩ = some (.slice none 0 0) := (blk_cell BK.out 1).trans rfl
    go_wp2_with fail
    refine bodyPost_ret (results_ct rfl _ _ w.heap.size 24 #[.slice A1 l0.length c1, .slice A2 L.length c2] (0, 0) _ rfl (blk_put (cs := #[.slice A1 l0.length c1, .slice none 0 0]) (blk_put (cs := #[.slice none 0 0, .slice none 0 0]) BK.out 0 _ rfl) 1 _ rfl) Try.underlying24 rfl (by kernel_rfl)) rfl ?_
    have h1 : w.heap.size < w4.heap.size := by have h1 := HL.out; have h2 := HL4.out; have h3 := HL2.out; omega
    exact ⟨_, _, rfl, Kd.R_lower (tn_off (tn_off HR1.out HL.out 0 _) HL.out 1 _) (Nat.le_of_lt HL.out), Kd.R_lower (tn_off (tn_off HR2.out h1 0 _) h1 1 _) (Nat.le_of_lt h1), (HB.out.setCell (p := ⟨w.heap.size, 0, none⟩) (Nat.le_refl _) _).setCell (p := ⟨w.heap.size, 1, none⟩) (Nat.le_refl _) _⟩
theorem tensor_Full.mono : ∀ a0 a1 k, LeO (tensor_Full.f k a0 a1) (tensor_Full.f (k + 1) a0 a1) := by
  intro a0 a1 k
  unfold tensor_Full.f
  repeat' first
    | (with_reducible exact shape_Check.mono _ _)
    | (with_reducible exact shape_Size.mono _ _)
    | (with_reducible exact LeO.refl _)
    | (with_reducible exact LeO.none _)
    | (with_reducible refine LeO.ite ?_ ?_)
    | (with_reducible refine LeO.bind ?_ (fun _ => ?_))


end Go.Proofs.Ytoiaegbhnpddlaa.A
