/- Lean functions that answer as the Go functions do, and the proofs that they do; no conditions. Written by this session's own driver: a scratch copy of the kit's print with the session's additions (wip/xprint). -/
import Derived.Test.YtalmgghhpgfgoaaAx0
import Derived.Test.YtalmgghhpgfgoaaAx1
import Derived.Test.YtalmgghhpgfgoaaAx3
import Derived.Test.YtalmgghhpgfgoaaAx8
import Derived.Test.YtalmgghhpgfgoaaAx9
import Derived.Test.YtalmgghhpgfgoaaAx10
namespace Go.Proofs.Ytalmgghhpgfgoaa.A
open Go.RowKit Go.Proofs.YtalmgghhpgfgoaaW.PrintWords Go.Proofs.YtalmgghhpgfgoaaW.PrintLast Go.Proofs.YtalmgghhpgfgoaaW.PrintMore
attribute [local go_sem] max2_int min2_int max_two min_two max_three min_three max_four min_four   -- for this text's walks alone
set_option linter.unusedVariables false
set_option linter.unusedSimpArgs false

/-! ### fullerlaw11_InferSizes: function 6 -/
mutual
def fullerlaw11_InferSizes.j0 : Nat → List Int → List Int → Int → Int → Bool → Bool → Option (Bool)
 | 0, _, _, _, _, _, _ => none
 | k + 1, x0, x1, x2, x3, x9, x32 => if x32 = true then (some x9) else ((infer_Node.f k 41 ([] : List Int) ([] : List Int) (([x0] : List (List Int)))).bind fun bt568 => ((infer_Node.f k 40 ([] : List Int) x1 (([x0] : List (List Int)))).bind fun bt575 => ((infer_Node.f k 43 ([] : List Int) (([x2] : List Int)) (([x0, x1] : List (List Int)))).bind fun bt585 => ((infer_Node.f k 50 ([] : List Int) (([x2] : List Int)) (([x0] : List (List Int)))).bind fun bt595 => ((infer_Node.f k 42 ([] : List Int) (([x2, 0, x3] : List Int)) (([x0] : List (List Int)))).bind fun bt605 => (if bt568.2 = 0 then ((shape_Size.f k bt568.1).bind fun t609 => ((shape_Size.f k x0).bind fun t610 => (fullerlaw11_InferSizes.j1 k x0 x1 x2 x9 bt575.1 bt575.2 bt585.1 bt585.2 bt595.1 bt595.2 bt605.1 bt605.2 (t609 == t610)))) else (fullerlaw11_InferSizes.j1 k x0 x1 x2 x9 bt575.1 bt575.2 bt585.1 bt585.2 bt595.1 bt595.2 bt605.1 bt605.2 true)))))))
def fullerlaw11_InferSizes.j1 : Nat → List Int → List Int → Int → Bool → List Int → Int → List Int → Int → List Int → Int → List Int → Int → Bool → Option (Bool)
 | 0, _, _, _, _, _, _, _, _, _, _, _, _, _ => none
 | k + 1, x0, x1, x2, x9, x12, x13, x14, x15, x16, x17, x18, x19, x20 => if x13 = 0 then ((shape_Size.f k x12).bind fun t611 => ((shape_Size.f k x0).bind fun t612 => (if t611 = t612 then ((fullerref02_Same.f k x12 x1).bind fun t613 => (fullerlaw11_InferSizes.j2 k x0 x1 x2 x9 x14 x15 x16 x17 x18 x19 x20 t613)) else (none)))) else (fullerlaw11_InferSizes.j2 k x0 x1 x2 x9 x14 x15 x16 x17 x18 x19 x20 true)
def fullerlaw11_InferSizes.j2 : Nat → List Int → List Int → Int → Bool → List Int → Int → List Int → Int → List Int → Int → Bool → Bool → Option (Bool)
 | 0, _, _, _, _, _, _, _, _, _, _, _, _ => none
 | k + 1, x0, x1, x2, x9, x14, x15, x16, x17, x18, x19, x20, x21 => if x15 = 0 then ((shape_Size.f k x14).bind fun t614 => ((shape_Size.f k x0).bind fun t615 => ((shape_Size.f k x1).bind fun t616 => ((shape_Check.f k x0).bind fun t617 => (if t617 = true then (if x2 ≥ 0 then (if ((x17 == 0) == (decide (x2 < (x0.length : Int)))) = true then (if x17 = 0 then (if x9 = true then (if x20 = true then (if x21 = true then (if t614 = (wrap64 (t615 + t616)) then (if (x16.length : Int) = (wrap64 ((x0.length : Int) - 1)) then (if x19 = 0 then ((shape_Size.f k x18).bind fun t618 => ((shape_Size.f k x0).bind fun t619 => (if t618 ≤ t619 then (some ((x18.length : Int) == (x0.length : Int))) else (none)))) else (some true)) else (none)) else (none)) else (none)) else (none)) else (none)) else (if x9 = true then (if x20 = true then (if x21 = true then (if t614 = (wrap64 (t615 + t616)) then (if x19 = 0 then ((shape_Size.f k x18).bind fun t620 => ((shape_Size.f k x0).bind fun t621 => (if t620 ≤ t621 then (some ((x18.length : Int) == (x0.length : Int))) else (none)))) else (some true)) else (none)) else (none)) else (none)) else (none))) else (none)) else (if ((x17 == 0) == false) = true then (if x17 = 0 then (if x9 = true then (if x20 = true then (if x21 = true then (if t614 = (wrap64 (t615 + t616)) then (if (x16.length : Int) = (wrap64 ((x0.length : Int) - 1)) then (if x19 = 0 then ((shape_Size.f k x18).bind fun t622 => ((shape_Size.f k x0).bind fun t623 => (if t622 ≤ t623 then (some ((x18.length : Int) == (x0.length : Int))) else (none)))) else (some true)) else (none)) else (none)) else (none)) else (none)) else (none)) else (if x9 = true then (if x20 = true then (if x21 = true then (if t614 = (wrap64 (t615 + t616)) then (if x19 = 0 then ((shape_Size.f k x18).bind fun t624 => ((shape_Size.f k x0).bind fun t625 => (if t624 ≤ t625 then (some ((x18.length : Int) == (x0.length : Int))) else (none)))) else (some true)) else (none)) else (none)) else (none)) else (none))) else (none))) else (if ((x17 == 0) == false) = true then (if x17 = 0 then (if x9 = true then (if x20 = true then (if x21 = true then (if t614 = (wrap64 (t615 + t616)) then (if (x16.length : Int) = (wrap64 ((x0.length : Int) - 1)) then (if x19 = 0 then ((shape_Size.f k x18).bind fun t626 => ((shape_Size.f k x0).bind fun t627 => (if t626 ≤ t627 then (some ((x18.length : Int) == (x0.length : Int))) else (none)))) else (some true)) else (none)) else (none)) else (none)) else (none)) else (none)) else (if x9 = true then (if x20 = true then (if x21 = true then (if t614 = (wrap64 (t615 + t616)) then (if x19 = 0 then ((shape_Size.f k x18).bind fun t628 => ((shape_Size.f k x0).bind fun t629 => (if t628 ≤ t629 then (some ((x18.length : Int) == (x0.length : Int))) else (none)))) else (some true)) else (none)) else (none)) else (none)) else (none))) else (none))))))) else ((shape_Check.f k x0).bind fun t630 => (if t630 = true then (if x2 ≥ 0 then (if ((x17 == 0) == (decide (x2 < (x0.length : Int)))) = true then (if x17 = 0 then (if x9 = true then (if x20 = true then (if x21 = true then (if (x16.length : Int) = (wrap64 ((x0.length : Int) - 1)) then (if x19 = 0 then ((shape_Size.f k x18).bind fun t631 => ((shape_Size.f k x0).bind fun t632 => (if t631 ≤ t632 then (some ((x18.length : Int) == (x0.length : Int))) else (none)))) else (some true)) else (none)) else (none)) else (none)) else (none)) else (if x9 = true then (if x20 = true then (if x21 = true then (if x19 = 0 then ((shape_Size.f k x18).bind fun t633 => ((shape_Size.f k x0).bind fun t634 => (if t633 ≤ t634 then (some ((x18.length : Int) == (x0.length : Int))) else (none)))) else (some true)) else (none)) else (none)) else (none))) else (none)) else (if ((x17 == 0) == false) = true then (if x17 = 0 then (if x9 = true then (if x20 = true then (if x21 = true then (if (x16.length : Int) = (wrap64 ((x0.length : Int) - 1)) then (if x19 = 0 then ((shape_Size.f k x18).bind fun t635 => ((shape_Size.f k x0).bind fun t636 => (if t635 ≤ t636 then (some ((x18.length : Int) == (x0.length : Int))) else (none)))) else (some true)) else (none)) else (none)) else (none)) else (none)) else (if x9 = true then (if x20 = true then (if x21 = true then (if x19 = 0 then ((shape_Size.f k x18).bind fun t637 => ((shape_Size.f k x0).bind fun t638 => (if t637 ≤ t638 then (some ((x18.length : Int) == (x0.length : Int))) else (none)))) else (some true)) else (none)) else (none)) else (none))) else (none))) else (if ((x17 == 0) == false) = true then (if x17 = 0 then (if x9 = true then (if x20 = true then (if x21 = true then (if (x16.length : Int) = (wrap64 ((x0.length : Int) - 1)) then (if x19 = 0 then ((shape_Size.f k x18).bind fun t639 => ((shape_Size.f k x0).bind fun t640 => (if t639 ≤ t640 then (some ((x18.length : Int) == (x0.length : Int))) else (none)))) else (some true)) else (none)) else (none)) else (none)) else (none)) else (if x9 = true then (if x20 = true then (if x21 = true then (if x19 = 0 then ((shape_Size.f k x18).bind fun t641 => ((shape_Size.f k x0).bind fun t642 => (if t641 ≤ t642 then (some ((x18.length : Int) == (x0.length : Int))) else (none)))) else (some true)) else (none)) else (none)) else (none))) else (none))))
end
def fullerlaw11_InferSizes.f (k : Nat) (l0 : List Int) (l1 : List Int) (a2 : Int) (a3 : Int) : Option (Bool) := (fullerlaw11_awake.f k).bind fun t564 => (if (l0.length : Int) > 100 then (fullerlaw11_InferSizes.j0 k l0 l1 a2 a3 t564 true) else (fullerlaw11_InferSizes.j0 k l0 l1 a2 a3 t564 (decide ((l1.length : Int) > 100))))
theorem fullerlaw11_InferSizes.mono_l : ∀ k, (∀ y0 y1 y2 y3 y4 y5, LeO (fullerlaw11_InferSizes.j0 k y0 y1 y2 y3 y4 y5) (fullerlaw11_InferSizes.j0 (k + 1) y0 y1 y2 y3 y4 y5)) ∧ (∀ y0 y1 y2 y3 y4 y5 y6 y7 y8 y9 y10 y11 y12, LeO (fullerlaw11_InferSizes.j1 k y0 y1 y2 y3 y4 y5 y6 y7 y8 y9 y10 y11 y12) (fullerlaw11_InferSizes.j1 (k + 1) y0 y1 y2 y3 y4 y5 y6 y7 y8 y9 y10 y11 y12)) ∧ (∀ y0 y1 y2 y3 y4 y5 y6 y7 y8 y9 y10 y11, LeO (fullerlaw11_InferSizes.j2 k y0 y1 y2 y3 y4 y5 y6 y7 y8 y9 y10 y11) (fullerlaw11_InferSizes.j2 (k + 1) y0 y1 y2 y3 y4 y5 y6 y7 y8 y9 y10 y11))
 | 0 => ⟨fun _ _ _ _ _ _ r h => by simp [fullerlaw11_InferSizes.j0] at h, fun _ _ _ _ _ _ _ _ _ _ _ _ _ r h => by simp [fullerlaw11_InferSizes.j1] at h, fun _ _ _ _ _ _ _ _ _ _ _ _ r h => by simp [fullerlaw11_InferSizes.j2] at h⟩
 | k + 1 => by
  obtain ⟨ih0, ih1, ih2⟩ := fullerlaw11_InferSizes.mono_l k
  refine ⟨?_, ?_, ?_⟩
  ·intro y0 y1 y2 y3 y4 y5
   unfold fullerlaw11_InferSizes.j0
   repeat' first
   | (with_reducible exact ih0 _ _ _ _ _ _)
   | (with_reducible exact ih1 _ _ _ _ _ _ _ _ _ _ _ _ _)
   | (with_reducible exact ih2 _ _ _ _ _ _ _ _ _ _ _ _)
   | (with_reducible exact fullerlaw11_awake.mono _)
   | (with_reducible exact fullerref02_Same.mono _ _ _)
   | (with_reducible exact infer_Node.mono _ _ _ _ _)
   | (with_reducible exact shape_Check.mono _ _)
   | (with_reducible exact shape_Size.mono _ _)
   | (with_reducible exact LeO.refl _)
   | (with_reducible exact LeO.none _)
   | (with_reducible refine LeO.ite ?_ ?_)
   | (with_reducible refine LeO.bind ?_ (fun _ => ?_))
   | exact ih0 _ _ _ _ _ _
   | exact ih1 _ _ _ _ _ _ _ _ _ _ _ _ _
   | exact ih2 _ _ _ _ _ _ _ _ _ _ _ _
   | exact fullerlaw11_awake.mono _
   | exact fullerref02_Same.mono _ _ _
   | exact infer_Node.mono _ _ _ _ _
   | exact shape_Check.mono _ _
   | exact shape_Size.mono _ _
   | exact LeO.none _
   | refine LeO.ite ?_ ?_
   | refine LeO.bind ?_ (fun _ => ?_)
  ·intro y0 y1 y2 y3 y4 y5 y6 y7 y8 y9 y10 y11 y12
   unfold fullerlaw11_InferSizes.j1
   repeat' first
   | (with_reducible exact ih0 _ _ _ _ _ _)
   | (with_reducible exact ih1 _ _ _ _ _ _ _ _ _ _ _ _ _)
   | (with_reducible exact ih2 _ _ _ _ _ _ _ _ _ _ _ _)
   | (with_reducible exact fullerlaw11_awake.mono _)
   | (with_reducible exact fullerref02_Same.mono _ _ _)
   | (with_reducible exact infer_Node.mono _ _ _ _ _)
   | (with_reducible exact shape_Check.mono _ _)
   | (with_reducible exact shape_Size.mono _ _)
   | (with_reducible exact LeO.refl _)
   | (with_reducible exact LeO.none _)
   | (with_reducible refine LeO.ite ?_ ?_)
   | (with_reducible refine LeO.bind ?_ (fun _ => ?_))
   | exact ih0 _ _ _ _ _ _
   | exact ih1 _ _ _ _ _ _ _ _ _ _ _ _ _
   | exact ih2 _ _ _ _ _ _ _ _ _ _ _ _
   | exact fullerlaw11_awake.mono _
   | exact fullerref02_Same.mono _ _ _
   | exact infer_Node.mono _ _ _ _ _
   | exact shape_Check.mono _ _
   | exact shape_Size.mono _ _
   | exact LeO.none _
   | refine LeO.ite ?_ ?_
   | refine LeO.bind ?_ (fun _ => ?_)
  ·intro y0 y1 y2 y3 y4 y5 y6 y7 y8 y9 y10 y11
   unfold fullerlaw11_InferSizes.j2
   repeat' first
   | (with_reducible exact ih0 _ _ _ _ _ _)
   | (with_reducible exact ih1 _ _ _ _ _ _ _ _ _ _ _ _ _)
   | (with_reducible exact ih2 _ _ _ _ _ _ _ _ _ _ _ _)
   | (with_reducible exact fullerlaw11_awake.mono _)
   | (with_reducible exact fullerref02_Same.mono _ _ _)
   | (with_reducible exact infer_Node.mono _ _ _ _ _)
   | (with_reducible exact shape_Check.mono _ _)
   | (with_reducible exact shape_Size.mono _ _)
   | (with_reducible exact LeO.refl _)
   | (with_reducible exact LeO.none _)
   | (with_reducible refine LeO.ite ?_ ?_)
   | (with_reducible refine LeO.bind ?_ (fun _ => ?_))
   | exact ih0 _ _ _ _ _ _
   | exact ih1 _ _ _ _ _ _ _ _ _ _ _ _ _
   | exact ih2 _ _ _ _ _ _ _ _ _ _ _ _
   | exact fullerlaw11_awake.mono _
   | exact fullerref02_Same.mono _ _ _
   | exact infer_Node.mono _ _ _ _ _
   | exact shape_Check.mono _ _
   | exact shape_Size.mono _ _
   | exact LeO.none _
   | refine LeO.ite ?_ ?_
   | refine LeO.bind ?_ (fun _ => ?_)
theorem fullerlaw11_InferSizes.mono : ∀ a0 a1 a2 a3 k, LeO (fullerlaw11_InferSizes.f k a0 a1 a2 a3) (fullerlaw11_InferSizes.f (k + 1) a0 a1 a2 a3) := by
 intro a0 a1 a2 a3 k
 obtain ⟨ih0, ih1, ih2⟩ := fullerlaw11_InferSizes.mono_l k
 unfold fullerlaw11_InferSizes.f
 repeat' first
   | (with_reducible exact ih0 _ _ _ _ _ _)
   | (with_reducible exact ih1 _ _ _ _ _ _ _ _ _ _ _ _ _)
   | (with_reducible exact ih2 _ _ _ _ _ _ _ _ _ _ _ _)
   | (with_reducible exact fullerlaw11_awake.mono _)
   | (with_reducible exact fullerref02_Same.mono _ _ _)
   | (with_reducible exact infer_Node.mono _ _ _ _ _)
   | (with_reducible exact shape_Check.mono _ _)
   | (with_reducible exact shape_Size.mono _ _)
   | (with_reducible exact LeO.refl _)
   | (with_reducible exact LeO.none _)
   | (with_reducible refine LeO.ite ?_ ?_)
   | (with_reducible refine LeO.bind ?_ (fun _ => ?_))
   | exact ih0 _ _ _ _ _ _
   | exact ih1 _ _ _ _ _ _ _ _ _ _ _ _ _
   | exact ih2 _ _ _ _ _ _ _ _ _ _ _ _
   | exact fullerlaw11_awake.mono _
   | exact fullerref02_Same.mono _ _ _
   | exact infer_Node.mono _ _ _ _ _
   | exact shape_Check.mono _ _
   | exact shape_Size.mono _ _
   | exact LeO.none _
   | refine LeO.ite ?_ ?_
   | refine LeO.bind ?_ (fun _ => ?_)
set_option maxHeartbeats 8000000 in
set_option maxRecDepth 100000 in
theorem fullerlaw11_InferSizes.calls (k : Nat) (P0_ : Nat → Prop) (A0 : Option Addr) (c0 : Nat) (l0 : List Int) (P1_ : Nat → Prop) (A1 : Option Addr) (c1 : Nat) (l1 : List Int) (a2 : Int) (a3 : Int) (r : Bool) (w : World) (hs0 : Kd.V (Kd.int .i64) 3 w w.heap.size (fun k_ => P0_ k_) (.slice A0 l0.length c0) l0) (hs1 : Kd.V (Kd.int .i64) 3 w w.heap.size (fun k_ => P1_ k_) (.slice A1 l1.length c1) l1) (h : fullerlaw11_InferSizes.f k l0 l1 a2 a3 = some r) :
  Calls Try.prog 6 #[.slice A0 l0.length c0, .slice A1 l1.length c1, .int .i64 a2, .int .i64 a3] w fun e w' => e = .returned (.bool r) ∧ Below w.heap.size w w' := by
 have hu25 := Try.underlying25
 have HO0 := Aside0.mk (show Kd.V (Kd.int .i64) 3 w w.heap.size (fun k_ => ((P0_ k_ ∨ P1_ k_) ∨ w.heap.size ≤ k_)) (.slice A0 l0.length c0) l0 from Kd.V_mono hs0 (fun k_ hk => .inl (.inl hk)))
 have HO1 := Aside0.mk (show Kd.V (Kd.int .i64) 3 w w.heap.size (fun k_ => ((P0_ k_ ∨ P1_ k_) ∨ w.heap.size ≤ k_)) (.slice A1 l1.length c1) l1 from Kd.V_mono hs1 (fun k_ hk => .inl (.inr hk)))
 have HB := Aside0.mk (Below.refl w.heap.size w)
 have H : ((fullerlaw11_awake.f k).bind fun t564 => (if (l0.length : Int) > 100 then (fullerlaw11_InferSizes.j0 k l0 l1 a2 a3 t564 true) else (fullerlaw11_InferSizes.j0 k l0 l1 a2 a3 t564 (decide ((l1.length : Int) > 100))))) = some r := h
 clear h
 replace H := Option.bind_eq_some_iff.mp H
 obtain ⟨t564, A50, H⟩ := H
 replace H : (if (l0.length : Int) > 100 then (fullerlaw11_InferSizes.j0 k l0 l1 a2 a3 t564 true) else (fullerlaw11_InferSizes.j0 k l0 l1 a2 a3 t564 (decide ((l1.length : Int) > 100)))) = some r := H
 have A5 := Aside0.mk A50
 clear A50
 have HC6 := Aside0.mk H
 clear H
 go_enter Try.func6, Try.ntmps6
 go_upto_region 2 with (first | ((with_reducible refine gate_callee (f := 8) rfl ?_); refine gL_ (some 24) Try.func8 #[] ?_; (with_reducible refine (fullerlaw11_awake.calls k  t564 _ A5.out).mono ?_); rintro e w7 ⟨rfl, hb⟩; refine ⟨_, rfl, ?_⟩; replace HO0 := Aside0.mk (Kd.V_below (mvV_ HO0.out) hb); replace HO1 := Aside0.mk (Kd.V_below (mvV_ HO1.out) hb); replace HB := Aside0.mk (below_step (bq0_ HB.out) hb); (try clear hb)))
 (try simp only [Act.put, sA_, sB_, sC_])
 go_cut [32] (fun v32 wc => ∃ (kq : Nat) (x32_5 : Bool), v32 = .bool x32_5 ∧ Aside0 (fullerlaw11_InferSizes.j0 kq l0 l1 a2 a3 t564 x32_5 = some r) ∧ Aside0 (kq ≤ k) ∧ Aside0 (Kd.V (Kd.int .i64) 3 wc w.heap.size (fun k_ => ((P0_ k_ ∨ P1_ k_) ∨ w.heap.size ≤ k_)) (.slice A0 l0.length c0) l0) ∧ Aside0 (Kd.V (Kd.int .i64) 3 wc w.heap.size (fun k_ => ((P0_ k_ ∨ P1_ k_) ∨ w.heap.size ≤ k_)) (.slice A1 l1.length c1) l1) ∧ Aside0 (Below w.heap.size w wc))
 case first =>
  have H := HC6.out
  clear HC6
  by_cases c8 : (l0.length : Int) > 100
  ·rw [if_pos c8] at H
   have c8b0 : decide (100 < (l0.length : Int)) = true := decide_eq_true c8
   have c8b1 : decide (100 < l0.length) = true := decide_eq_true (by omega)
   clear c8
   (first | rw [c8b0] | (simp only [i64_w, i32_w]; rw [c8b0]) | skip)
   have H' := Aside0.mk H
   clear H
   go_wp2
   go_meet
   case rel => exact ⟨_, (true), (by first | rfl | (simp; done) | (simp [*]; done)), H', ⟨by first | omega | exact Nat.le_refl _⟩, ⟨mvV_ HO0.out⟩, ⟨mvV_ HO1.out⟩, ⟨bq0_ HB.out⟩⟩
  ·rw [if_neg c8] at H
   have c8b0 : decide (100 < (l0.length : Int)) = false := decide_eq_false c8
   have c8b1 : decide (100 < l0.length) = false := decide_eq_false (by omega)
   clear c8
   (first | rw [c8b0] | (simp only [i64_w, i32_w]; rw [c8b0]) | skip)
   have H' := Aside0.mk H
   clear H
   go_wp2
   go_meet
   case rel => exact ⟨_, (decide ((l1.length : Int) > 100)), (by first | rfl | (simp; done) | (simp [*]; done)), H', ⟨by first | omega | exact Nat.le_refl _⟩, ⟨mvV_ HO0.out⟩, ⟨mvV_ HO1.out⟩, ⟨bq0_ HB.out⟩⟩
 case rest => as_aux_lemma =>
  clear HC6
  try clear c1
  try clear p2
  try clear c6
  try clear c8
  try clear c8b0
  try clear c8b1
  obtain ⟨kq, x32_5, rfl, HA, HJ5, HO_0, HO_1, HB⟩ := hcut
  cases kq with
  | zero => exact absurd HA.out (by simp [fullerlaw11_InferSizes.j0])
  | succ kj5 =>
   have H := HA.out
   clear HA
   simp only [fullerlaw11_InferSizes.j0] at H
   by_cases c9 : x32_5 = true
   ·subst c9
    have H1 : (some t564) = some r := by rw [if_pos rfl] at H; exact H
    clear H
    have H := H1
    clear H1
    obtain rfl := Option.some.inj H
    go_wp2
    all_goals
     go_ret
     exact ⟨by first | rfl | (simp <;> rfl) | (simp [*] <;> rfl) | (simp_all <;> omega), bq0_ HB.out⟩
   ·as_aux_lemma =>
    replace c9 := Bool.eq_false_iff.mpr c9
    subst c9
    have H1 : ((infer_Node.f kj5 41 ([] : List Int) ([] : List Int) (([l0] : List (List Int)))).bind fun bt568 => ((infer_Node.f kj5 40 ([] : List Int) l1 (([l0] : List (List Int)))).bind fun bt575 => ((infer_Node.f kj5 43 ([] : List Int) (([a2] : List Int)) (([l0, l1] : List (List Int)))).bind fun bt585 => ((infer_Node.f kj5 50 ([] : List Int) (([a2] : List Int)) (([l0] : List (List Int)))).bind fun bt595 => ((infer_Node.f kj5 42 ([] : List Int) (([a2, 0, a3] : List Int)) (([l0] : List (List Int)))).bind fun bt605 => (if bt568.2 = 0 then ((shape_Size.f kj5 bt568.1).bind fun t609 => ((shape_Size.f kj5 l0).bind fun t610 => (fullerlaw11_InferSizes.j1 kj5 l0 l1 a2 t564 bt575.1 bt575.2 bt585.1 bt585.2 bt595.1 bt595.2 bt605.1 bt605.2 (t609 == t610)))) else (fullerlaw11_InferSizes.j1 kj5 l0 l1 a2 t564 bt575.1 bt575.2 bt585.1 bt585.2 bt595.1 bt595.2 bt605.1 bt605.2 true))))))) = some r := by rw [if_neg (show ¬ (false = true) by decide)] at H; exact H
    clear H
    have H := H1
    clear H1
    obtain ⟨y565, hy565⟩ : ∃ y_ : List (List Int), y_ = (([l0] : List (List Int))) := ⟨_, rfl⟩
    replace H : ((infer_Node.f kj5 41 ([] : List Int) ([] : List Int) y565).bind fun bt568 => ((infer_Node.f kj5 40 ([] : List Int) l1 (([l0] : List (List Int)))).bind fun bt575 => ((infer_Node.f kj5 43 ([] : List Int) (([a2] : List Int)) (([l0, l1] : List (List Int)))).bind fun bt585 => ((infer_Node.f kj5 50 ([] : List Int) (([a2] : List Int)) (([l0] : List (List Int)))).bind fun bt595 => ((infer_Node.f kj5 42 ([] : List Int) (([a2, 0, a3] : List Int)) (([l0] : List (List Int)))).bind fun bt605 => (if bt568.2 = 0 then ((shape_Size.f kj5 bt568.1).bind fun t609 => ((shape_Size.f kj5 l0).bind fun t610 => (fullerlaw11_InferSizes.j1 kj5 l0 l1 a2 t564 bt575.1 bt575.2 bt585.1 bt585.2 bt595.1 bt595.2 bt605.1 bt605.2 (t609 == t610)))) else (fullerlaw11_InferSizes.j1 kj5 l0 l1 a2 t564 bt575.1 bt575.2 bt585.1 bt585.2 bt595.1 bt595.2 bt605.1 bt605.2 true))))))) = some r := by first | (rw [hy565]; with_reducible exact H) | (have H2_ := (Option.bind_some _ _).symm.trans H; rw [hy565]; with_reducible exact H2_) | (have H2_ := (Option.bind_some _ _).symm.trans H; with_reducible exact H2_) | with_reducible exact H | (rw [hy565]; exact H) | exact H
    have Ny565 := Aside0.mk hy565
    clear hy565
    replace H := Option.bind_eq_some_iff.mp H
    obtain ⟨⟨t568, t571⟩, A100, H⟩ := H
    replace H : ((infer_Node.f kj5 40 ([] : List Int) l1 (([l0] : List (List Int)))).bind fun bt575 => ((infer_Node.f kj5 43 ([] : List Int) (([a2] : List Int)) (([l0, l1] : List (List Int)))).bind fun bt585 => ((infer_Node.f kj5 50 ([] : List Int) (([a2] : List Int)) (([l0] : List (List Int)))).bind fun bt595 => ((infer_Node.f kj5 42 ([] : List Int) (([a2, 0, a3] : List Int)) (([l0] : List (List Int)))).bind fun bt605 => (if t571 = 0 then ((shape_Size.f kj5 t568).bind fun t609 => ((shape_Size.f kj5 l0).bind fun t610 => (fullerlaw11_InferSizes.j1 kj5 l0 l1 a2 t564 bt575.1 bt575.2 bt585.1 bt585.2 bt595.1 bt595.2 bt605.1 bt605.2 (t609 == t610)))) else (fullerlaw11_InferSizes.j1 kj5 l0 l1 a2 t564 bt575.1 bt575.2 bt585.1 bt585.2 bt595.1 bt595.2 bt605.1 bt605.2 true)))))) = some r := H
    have A10 := Aside0.mk A100
    clear A100
    obtain ⟨y572, hy572⟩ : ∃ y_ : List (List Int), y_ = (([l0] : List (List Int))) := ⟨_, rfl⟩
    replace H : ((infer_Node.f kj5 40 ([] : List Int) l1 y572).bind fun bt575 => ((infer_Node.f kj5 43 ([] : List Int) (([a2] : List Int)) (([l0, l1] : List (List Int)))).bind fun bt585 => ((infer_Node.f kj5 50 ([] : List Int) (([a2] : List Int)) (([l0] : List (List Int)))).bind fun bt595 => ((infer_Node.f kj5 42 ([] : List Int) (([a2, 0, a3] : List Int)) (([l0] : List (List Int)))).bind fun bt605 => (if t571 = 0 then ((shape_Size.f kj5 t568).bind fun t609 => ((shape_Size.f kj5 l0).bind fun t610 => (fullerlaw11_InferSizes.j1 kj5 l0 l1 a2 t564 bt575.1 bt575.2 bt585.1 bt585.2 bt595.1 bt595.2 bt605.1 bt605.2 (t609 == t610)))) else (fullerlaw11_InferSizes.j1 kj5 l0 l1 a2 t564 bt575.1 bt575.2 bt585.1 bt585.2 bt595.1 bt595.2 bt605.1 bt605.2 true)))))) = some r := by first | (rw [hy572]; with_reducible exact H) | (have H2_ := (Option.bind_some _ _).symm.trans H; rw [hy572]; with_reducible exact H2_) | (have H2_ := (Option.bind_some _ _).symm.trans H; with_reducible exact H2_) | with_reducible exact H | (rw [hy572]; exact H) | exact H
    have Ny572 := Aside0.mk hy572
    clear hy572
    replace H := Option.bind_eq_some_iff.mp H
    obtain ⟨⟨t575, t578⟩, A110, H⟩ := H
    replace H : ((infer_Node.f kj5 43 ([] : List Int) (([a2] : List Int)) (([l0, l1] : List (List Int)))).bind fun bt585 => ((infer_Node.f kj5 50 ([] : List Int) (([a2] : List Int)) (([l0] : List (List Int)))).bind fun bt595 => ((infer_Node.f kj5 42 ([] : List Int) (([a2, 0, a3] : List Int)) (([l0] : List (List Int)))).bind fun bt605 => (if t571 = 0 then ((shape_Size.f kj5 t568).bind fun t609 => ((shape_Size.f kj5 l0).bind fun t610 => (fullerlaw11_InferSizes.j1 kj5 l0 l1 a2 t564 t575 t578 bt585.1 bt585.2 bt595.1 bt595.2 bt605.1 bt605.2 (t609 == t610)))) else (fullerlaw11_InferSizes.j1 kj5 l0 l1 a2 t564 t575 t578 bt585.1 bt585.2 bt595.1 bt595.2 bt605.1 bt605.2 true))))) = some r := H
    have A11 := Aside0.mk A110
    clear A110
    obtain ⟨y579, hy579⟩ : ∃ y_ : List Int, y_ = (([a2] : List Int)) := ⟨_, rfl⟩
    replace H : ((infer_Node.f kj5 43 ([] : List Int) y579 (([l0, l1] : List (List Int)))).bind fun bt585 => ((infer_Node.f kj5 50 ([] : List Int) (([a2] : List Int)) (([l0] : List (List Int)))).bind fun bt595 => ((infer_Node.f kj5 42 ([] : List Int) (([a2, 0, a3] : List Int)) (([l0] : List (List Int)))).bind fun bt605 => (if t571 = 0 then ((shape_Size.f kj5 t568).bind fun t609 => ((shape_Size.f kj5 l0).bind fun t610 => (fullerlaw11_InferSizes.j1 kj5 l0 l1 a2 t564 t575 t578 bt585.1 bt585.2 bt595.1 bt595.2 bt605.1 bt605.2 (t609 == t610)))) else (fullerlaw11_InferSizes.j1 kj5 l0 l1 a2 t564 t575 t578 bt585.1 bt585.2 bt595.1 bt595.2 bt605.1 bt605.2 true))))) = some r := by first | (rw [hy579]; with_reducible exact H) | (have H2_ := (Option.bind_some _ _).symm.trans H; rw [hy579]; with_reducible exact H2_) | (have H2_ := (Option.bind_some _ _).symm.trans H; with_reducible exact H2_) | with_reducible exact H | (rw [hy579]; exact H) | exact H
    have Ny579 := Aside0.mk hy579
    clear hy579
    obtain ⟨y582, hy582⟩ : ∃ y_ : List (List Int), y_ = (([l0, l1] : List (List Int))) := ⟨_, rfl⟩
    replace H : ((infer_Node.f kj5 43 ([] : List Int) y579 y582).bind fun bt585 => ((infer_Node.f kj5 50 ([] : List Int) (([a2] : List Int)) (([l0] : List (List Int)))).bind fun bt595 => ((infer_Node.f kj5 42 ([] : List Int) (([a2, 0, a3] : List Int)) (([l0] : List (List Int)))).bind fun bt605 => (if t571 = 0 then ((shape_Size.f kj5 t568).bind fun t609 => ((shape_Size.f kj5 l0).bind fun t610 => (fullerlaw11_InferSizes.j1 kj5 l0 l1 a2 t564 t575 t578 bt585.1 bt585.2 bt595.1 bt595.2 bt605.1 bt605.2 (t609 == t610)))) else (fullerlaw11_InferSizes.j1 kj5 l0 l1 a2 t564 t575 t578 bt585.1 bt585.2 bt595.1 bt595.2 bt605.1 bt605.2 true))))) = some r := by first | (rw [hy582]; with_reducible exact H) | (have H2_ := (Option.bind_some _ _).symm.trans H; rw [hy582]; with_reducible exact H2_) | (have H2_ := (Option.bind_some _ _).symm.trans H; with_reducible exact H2_) | with_reducible exact H | (rw [hy582]; exact H) | exact H
    have Ny582 := Aside0.mk hy582
    clear hy582
    replace H := Option.bind_eq_some_iff.mp H
    obtain ⟨⟨t585, t588⟩, A120, H⟩ := H
    replace H : ((infer_Node.f kj5 50 ([] : List Int) (([a2] : List Int)) (([l0] : List (List Int)))).bind fun bt595 => ((infer_Node.f kj5 42 ([] : List Int) (([a2, 0, a3] : List Int)) (([l0] : List (List Int)))).bind fun bt605 => (if t571 = 0 then ((shape_Size.f kj5 t568).bind fun t609 => ((shape_Size.f kj5 l0).bind fun t610 => (fullerlaw11_InferSizes.j1 kj5 l0 l1 a2 t564 t575 t578 t585 t588 bt595.1 bt595.2 bt605.1 bt605.2 (t609 == t610)))) else (fullerlaw11_InferSizes.j1 kj5 l0 l1 a2 t564 t575 t578 t585 t588 bt595.1 bt595.2 bt605.1 bt605.2 true)))) = some r := H
    have A12 := Aside0.mk A120
    clear A120
    obtain ⟨y589, hy589⟩ : ∃ y_ : List Int, y_ = (([a2] : List Int)) := ⟨_, rfl⟩
    replace H : ((infer_Node.f kj5 50 ([] : List Int) y589 (([l0] : List (List Int)))).bind fun bt595 => ((infer_Node.f kj5 42 ([] : List Int) (([a2, 0, a3] : List Int)) (([l0] : List (List Int)))).bind fun bt605 => (if t571 = 0 then ((shape_Size.f kj5 t568).bind fun t609 => ((shape_Size.f kj5 l0).bind fun t610 => (fullerlaw11_InferSizes.j1 kj5 l0 l1 a2 t564 t575 t578 t585 t588 bt595.1 bt595.2 bt605.1 bt605.2 (t609 == t610)))) else (fullerlaw11_InferSizes.j1 kj5 l0 l1 a2 t564 t575 t578 t585 t588 bt595.1 bt595.2 bt605.1 bt605.2 true)))) = some r := by first | (rw [hy589]; with_reducible exact H) | (have H2_ := (Option.bind_some _ _).symm.trans H; rw [hy589]; with_reducible exact H2_) | (have H2_ := (Option.bind_some _ _).symm.trans H; with_reducible exact H2_) | with_reducible exact H | (rw [hy589]; exact H) | exact H
    have Ny589 := Aside0.mk hy589
    clear hy589
    obtain ⟨y592, hy592⟩ : ∃ y_ : List (List Int), y_ = (([l0] : List (List Int))) := ⟨_, rfl⟩
    replace H : ((infer_Node.f kj5 50 ([] : List Int) y589 y592).bind fun bt595 => ((infer_Node.f kj5 42 ([] : List Int) (([a2, 0, a3] : List Int)) (([l0] : List (List Int)))).bind fun bt605 => (if t571 = 0 then ((shape_Size.f kj5 t568).bind fun t609 => ((shape_Size.f kj5 l0).bind fun t610 => (fullerlaw11_InferSizes.j1 kj5 l0 l1 a2 t564 t575 t578 t585 t588 bt595.1 bt595.2 bt605.1 bt605.2 (t609 == t610)))) else (fullerlaw11_InferSizes.j1 kj5 l0 l1 a2 t564 t575 t578 t585 t588 bt595.1 bt595.2 bt605.1 bt605.2 true)))) = some r := by first | (rw [hy592]; with_reducible exact H) | (have H2_ := (Option.bind_some _ _).symm.trans H; rw [hy592]; with_reducible exact H2_) | (have H2_ := (Option.bind_some _ _).symm.trans H; with_reducible exact H2_) | with_reducible exact H | (rw [hy592]; exact H) | exact H
    have Ny592 := Aside0.mk hy592
    clear hy592
    replace H := Option.bind_eq_some_iff.mp H
    obtain ⟨⟨t595, t598⟩, A130, H⟩ := H
    replace H : ((infer_Node.f kj5 42 ([] : List Int) (([a2, 0, a3] : List Int)) (([l0] : List (List Int)))).bind fun bt605 => (if t571 = 0 then ((shape_Size.f kj5 t568).bind fun t609 => ((shape_Size.f kj5 l0).bind fun t610 => (fullerlaw11_InferSizes.j1 kj5 l0 l1 a2 t564 t575 t578 t585 t588 t595 t598 bt605.1 bt605.2 (t609 == t610)))) else (fullerlaw11_InferSizes.j1 kj5 l0 l1 a2 t564 t575 t578 t585 t588 t595 t598 bt605.1 bt605.2 true))) = some r := H
    have A13 := Aside0.mk A130
    clear A130
    obtain ⟨y599, hy599⟩ : ∃ y_ : List Int, y_ = (([a2, 0, a3] : List Int)) := ⟨_, rfl⟩
    replace H : ((infer_Node.f kj5 42 ([] : List Int) y599 (([l0] : List (List Int)))).bind fun bt605 => (if t571 = 0 then ((shape_Size.f kj5 t568).bind fun t609 => ((shape_Size.f kj5 l0).bind fun t610 => (fullerlaw11_InferSizes.j1 kj5 l0 l1 a2 t564 t575 t578 t585 t588 t595 t598 bt605.1 bt605.2 (t609 == t610)))) else (fullerlaw11_InferSizes.j1 kj5 l0 l1 a2 t564 t575 t578 t585 t588 t595 t598 bt605.1 bt605.2 true))) = some r := by first | (rw [hy599]; with_reducible exact H) | (have H2_ := (Option.bind_some _ _).symm.trans H; rw [hy599]; with_reducible exact H2_) | (have H2_ := (Option.bind_some _ _).symm.trans H; with_reducible exact H2_) | with_reducible exact H | (rw [hy599]; exact H) | exact H
    have Ny599 := Aside0.mk hy599
    clear hy599
    obtain ⟨y602, hy602⟩ : ∃ y_ : List (List Int), y_ = (([l0] : List (List Int))) := ⟨_, rfl⟩
    replace H : ((infer_Node.f kj5 42 ([] : List Int) y599 y602).bind fun bt605 => (if t571 = 0 then ((shape_Size.f kj5 t568).bind fun t609 => ((shape_Size.f kj5 l0).bind fun t610 => (fullerlaw11_InferSizes.j1 kj5 l0 l1 a2 t564 t575 t578 t585 t588 t595 t598 bt605.1 bt605.2 (t609 == t610)))) else (fullerlaw11_InferSizes.j1 kj5 l0 l1 a2 t564 t575 t578 t585 t588 t595 t598 bt605.1 bt605.2 true))) = some r := by first | (rw [hy602]; with_reducible exact H) | (have H2_ := (Option.bind_some _ _).symm.trans H; rw [hy602]; with_reducible exact H2_) | (have H2_ := (Option.bind_some _ _).symm.trans H; with_reducible exact H2_) | with_reducible exact H | (rw [hy602]; exact H) | exact H
    have Ny602 := Aside0.mk hy602
    clear hy602
    replace H := Option.bind_eq_some_iff.mp H
    obtain ⟨⟨t605, t608⟩, A140, H⟩ := H
    replace H : (if t571 = 0 then ((shape_Size.f kj5 t568).bind fun t609 => ((shape_Size.f kj5 l0).bind fun t610 => (fullerlaw11_InferSizes.j1 kj5 l0 l1 a2 t564 t575 t578 t585 t588 t595 t598 t605 t608 (t609 == t610)))) else (fullerlaw11_InferSizes.j1 kj5 l0 l1 a2 t564 t575 t578 t585 t588 t595 t598 t605 t608 true)) = some r := H
    have A14 := Aside0.mk A140
    clear A140
    have HC15 := Aside0.mk H
    clear H
    go_upto_region 9 with (first | ((with_reducible refine gate_dst (N := 37) rfl ?_); (try (refine gate_guard (by rfl) ?_; dsimp only)); refine Kd.N_lit (Kd.slice 3 (Kd.int .i64)) _ 23 ?hg (N' := 37) ?hd (xs := ([l0] : List (List Int))) (inner := [.slice A0 l0.length c0]) (ok := (fun k_ => ((P0_ k_ ∨ P1_ k_) ∨ w.heap.size ≤ k_))) (okp := (fun k_ => ((P0_ k_ ∨ P1_ k_) ∨ w.heap.size ≤ k_))) ?hr ?hp (fun _ hk => hk) ((show ∀ k_, wc.heap.size ≤ k_ → (fun k_ => ((P0_ k_ ∨ P1_ k_) ∨ w.heap.size ≤ k_)) k_ from fun k_ hk => (.inr (Nat.le_trans (below_size (bq0_ HB.out)) hk))) _ (Nat.le_refl _)) (Below.refl _ _) (Nat.le_refl _) (by simp) ?_; (case hd => rfl); (case hg => rfl); (case hr => first | (go_simp; done) | (go_simp; rfl)); (case hp => exact (Reps.one (show Kd.FK (Kd.slice 3 (Kd.int .i64)) _ _ l0 [.slice A0 l0.length c0] from (Kd.FK_slice_mk (Kd.V_reads' (Kd.V_mono (ok' := (fun k_ => ((P0_ k_ ∨ P1_ k_) ∨ w.heap.size ≤ k_))) (HO_0.out) (fun k_ hk => hk))).2.1 (Kd.V_F (Kd.V_mono (ok' := (fun k_ => ((P0_ k_ ∨ P1_ k_) ∨ w.heap.size ≤ k_))) (HO_0.out) (fun k_ hk => hk))))) (Reps.none _ _))); intro v566 w16 ho17 hb hg_ hnew_; clear hg_ hnew_; (first | rw [← Ny565.out] at ho17 | (simp only [Int.reduceToNat] at ho17; rw [← Ny565.out] at ho17)); have HO567 := Aside0.mk (Kd.N_lower ho17 (below_size (bq0_ HB.out))); replace HO_0 := Aside0.mk (Kd.V_elder' (mvV_ HO_0.out) (Kd.N_base ho17) hb); replace HO_1 := Aside0.mk (Kd.V_elder' (mvV_ HO_1.out) (Kd.N_base ho17) hb); replace HB := Aside0.mk (below_step (bq0_ HB.out) hb); clear hb ho17; obtain ⟨Ao18, co18, eo18⟩ := Kd.N_slice HO567.out; subst eo18) | ((with_reducible refine gate_callee (f := 11) rfl ?_); refine gL_ (some 38) Try.func11 #[.agg #[.int .i64 41, .slice none 0 0, .slice none 0 0], .slice Ao18 y565.length co18] ?_; (refine (infer_Node.calls kj5 41 _ _ ([] : List Int) _ _ ([] : List Int) _ _ y565 t568 t571 _ ?side1 ?side2 ?side3 ?side4 ?side5 ?side6 A10.out).mono ?_); (case side1 => exact Kd.C_nil _ _); (case side2 => exact Nat.le_refl _); (case side3 => exact Kd.C_nil _ _); (case side4 => exact Nat.le_refl _); (case side5 => exact mvC_ ((Kd.N_reads' HO567.out).2.2)); (case side6 => exact (Kd.N_reads' HO567.out).2.1); rintro e w19 ⟨v569, rfl, ho0, hb⟩; refine ⟨_, rfl, ?_⟩; have HO570 := Aside0.mk (Kd.R_lower (Kd.R_newM (M := fun k_ => (w.heap.size ≤ k_)) ho0 (below_size (bq0_ HB.out)) (fun k_ h_ => h_)) (below_size (bq0_ HB.out))); replace HO_0 := Aside0.mk (Kd.V_elder' (mvV_ HO_0.out) (Kd.R_base ho0) hb); replace HO_1 := Aside0.mk (Kd.V_elder' (mvV_ HO_1.out) (Kd.R_base ho0) hb); replace HO567 := Aside0.mk (Kd.N_elder' (mvN_ HO567.out) (Kd.R_base ho0) hb); replace HB := Aside0.mk (below_step (bq0_ HB.out) hb); (try clear hb); (try clear ho0)) | ((with_reducible refine gate_dst (N := 45) rfl ?_); (try (refine gate_guard (by rfl) ?_; dsimp only)); refine Kd.N_lit (Kd.slice 3 (Kd.int .i64)) _ 23 ?hg (N' := 45) ?hd (xs := ([l0] : List (List Int))) (inner := [.slice A0 l0.length c0]) (ok := (fun k_ => ((P0_ k_ ∨ P1_ k_) ∨ w.heap.size ≤ k_) ∧ some k_ ≠ (.slice Ao18 y565.length co18 : Value).ownBlock ∧ some k_ ≠ (v569 : Value).ownBlock)) (okp := (fun k_ => ((P0_ k_ ∨ P1_ k_) ∨ w.heap.size ≤ k_) ∧ some k_ ≠ (.slice Ao18 y565.length co18 : Value).ownBlock ∧ some k_ ≠ (v569 : Value).ownBlock)) ?hr ?hp (fun _ hk => hk) ((show ∀ k_, w19.heap.size ≤ k_ → (fun k_ => ((P0_ k_ ∨ P1_ k_) ∨ w.heap.size ≤ k_) ∧ some k_ ≠ (.slice Ao18 y565.length co18 : Value).ownBlock ∧ some k_ ≠ (v569 : Value).ownBlock) k_ from fun k_ hk => ⟨(.inr (Nat.le_trans (below_size (bq0_ HB.out)) hk)), Kd.fresh' (Kd.N_lt (mvN_ HO567.out)) k_ hk, Kd.fresh' (Kd.R_lt (mvR_ HO570.out)) k_ hk⟩) _ (Nat.le_refl _)) (Below.refl _ _) (Nat.le_refl _) (by simp) ?_; (case hd => rfl); (case hg => rfl); (case hr => first | (go_simp; done) | (go_simp; rfl)); (case hp => exact (Reps.one (show Kd.FK (Kd.slice 3 (Kd.int .i64)) _ _ l0 [.slice A0 l0.length c0] from (Kd.FK_slice_mk (Kd.V_reads' (Kd.V_mono (ok' := (fun k_ => ((P0_ k_ ∨ P1_ k_) ∨ w.heap.size ≤ k_) ∧ some k_ ≠ (.slice Ao18 y565.length co18 : Value).ownBlock ∧ some k_ ≠ (v569 : Value).ownBlock)) (HO_0.out) (fun k_ hk => ⟨hk.1.1, ⟨hk.1.2, hk.2⟩⟩))).2.1 (Kd.V_F (Kd.V_mono (ok' := (fun k_ => ((P0_ k_ ∨ P1_ k_) ∨ w.heap.size ≤ k_) ∧ some k_ ≠ (.slice Ao18 y565.length co18 : Value).ownBlock ∧ some k_ ≠ (v569 : Value).ownBlock)) (HO_0.out) (fun k_ hk => ⟨hk.1.1, ⟨hk.1.2, hk.2⟩⟩))))) (Reps.none _ _))); intro v573 w20 ho21 hb hg_ hnew_; clear hg_ hnew_; (first | rw [← Ny572.out] at ho21 | (simp only [Int.reduceToNat] at ho21; rw [← Ny572.out] at ho21)); have HO574 := Aside0.mk (Kd.N_lower ho21 (below_size (bq0_ HB.out))); replace HO_0 := Aside0.mk (Kd.V_elder' (mvV_ HO_0.out) (Kd.N_base ho21) hb); replace HO_1 := Aside0.mk (Kd.V_elder' (mvV_ HO_1.out) (Kd.N_base ho21) hb); replace HO567 := Aside0.mk (Kd.N_elder' (mvN_ HO567.out) (Kd.N_base ho21) hb); replace HO570 := Aside0.mk (Kd.R_below (mvR_ HO570.out) hb); replace HB := Aside0.mk (below_step (bq0_ HB.out) hb); clear hb ho21; obtain ⟨Ao22, co22, eo22⟩ := Kd.N_slice HO574.out; subst eo22) | ((with_reducible refine gate_callee (f := 11) rfl ?_); refine gL_ (some 46) Try.func11 #[.agg #[.int .i64 40, .slice none 0 0, .slice A1 l1.length c1], .slice Ao22 y572.length co22] ?_; (refine (infer_Node.calls kj5 40 _ _ ([] : List Int) _ _ l1 _ _ y572 t575 t578 _ ?side1 ?side2 ?side3 ?side4 ?side5 ?side6 A11.out).mono ?_); (case side1 => exact Kd.C_nil _ _); (case side2 => exact Nat.le_refl _); (case side3 => exact mvC_ ((Kd.V_reads' HO_1.out).2.2)); (case side4 => exact (Kd.V_reads' HO_1.out).2.1); (case side5 => exact mvC_ ((Kd.N_reads' HO574.out).2.2)); (case side6 => exact (Kd.N_reads' HO574.out).2.1); rintro e w23 ⟨v576, rfl, ho0, hb⟩; refine ⟨_, rfl, ?_⟩; have HO577 := Aside0.mk (Kd.R_lower (Kd.R_new' (Kd.R_newM (M := fun k_ => (w.heap.size ≤ k_)) ho0 (below_size (bq0_ HB.out)) (fun k_ h_ => h_)) (Kd.R_lt (mvR_ HO570.out))) (below_size (bq0_ HB.out))); replace HO_0 := Aside0.mk (Kd.V_elder' (mvV_ HO_0.out) (Kd.R_base ho0) hb); replace HO_1 := Aside0.mk (Kd.V_elder' (mvV_ HO_1.out) (Kd.R_base ho0) hb); replace HO567 := Aside0.mk (Kd.N_elder' (mvN_ HO567.out) (Kd.R_base ho0) hb); replace HO570 := Aside0.mk (Kd.R_elder' (mvR_ HO570.out) (Kd.R_base ho0) hb); replace HO574 := Aside0.mk (Kd.N_elder' (mvN_ HO574.out) (Kd.R_base ho0) hb); replace HB := Aside0.mk (below_step (bq0_ HB.out) hb); (try clear hb); (try clear ho0)) | ((with_reducible refine gate_dst (N := 51) rfl ?_); (try (refine gate_guard (by rfl) ?_; dsimp only)); refine Kd.R_lit (Kd.int .i64) _ 3 ?hg (N := 51) ?hd (xs := ([a2] : List Int)) (inner := [.int .i64 a2]) (ok := fun _ => True) (okp := fun _ => True) ?hr ?hp (fun _ hk => hk) trivial (Below.refl _ _) (Nat.le_refl _) (by simp) ?_; (case hd => rfl); (case hg => rfl); (case hr => first | (go_simp; done) | (go_simp; rfl)); (case hp => exact (Reps.one (show Kd.M (Kd.int .i64) _ _ _ a2 [.int .i64 a2] from rfl) (Reps.none _ _))); intro v580 w24 ho25 hb hg_ hnew_; clear hg_ hnew_; (first | rw [← Ny579.out] at ho25 | (simp only [Int.reduceToNat] at ho25; rw [← Ny579.out] at ho25)); have HO581 := Aside0.mk (Kd.R_lower (Kd.R_new' (Kd.R_new' (Kd.R_newM (M := fun k_ => (w.heap.size ≤ k_)) ho25 (below_size (bq0_ HB.out)) (fun k_ h_ => h_)) (Kd.R_lt (mvR_ HO570.out))) (Kd.R_lt (mvR_ HO577.out))) (below_size (bq0_ HB.out))); replace HO_0 := Aside0.mk (Kd.V_elder' (mvV_ HO_0.out) (Kd.R_base ho25) hb); replace HO_1 := Aside0.mk (Kd.V_elder' (mvV_ HO_1.out) (Kd.R_base ho25) hb); replace HO567 := Aside0.mk (Kd.N_elder' (mvN_ HO567.out) (Kd.R_base ho25) hb); replace HO570 := Aside0.mk (Kd.R_elder' (mvR_ HO570.out) (Kd.R_base ho25) hb); replace HO574 := Aside0.mk (Kd.N_elder' (mvN_ HO574.out) (Kd.R_base ho25) hb); replace HO577 := Aside0.mk (Kd.R_elder' (mvR_ HO577.out) (Kd.R_base ho25) hb); replace HB := Aside0.mk (below_step (bq0_ HB.out) hb); clear hb ho25; obtain ⟨Ao26, co26, eo26⟩ := Kd.R_slice HO581.out; subst eo26) | ((with_reducible refine gate_dst (N := 55) rfl ?_); (try (refine gate_guard (by rfl) ?_; dsimp only)); refine Kd.N_lit (Kd.slice 3 (Kd.int .i64)) _ 23 ?hg (N' := 55) ?hd (xs := ([l0, l1] : List (List Int))) (inner := [.slice A0 l0.length c0, .slice A1 l1.length c1]) (ok := (fun k_ => ((P0_ k_ ∨ P1_ k_) ∨ w.heap.size ≤ k_) ∧ some k_ ≠ (.slice Ao18 y565.length co18 : Value).ownBlock ∧ some k_ ≠ (v569 : Value).ownBlock ∧ some k_ ≠ (.slice Ao22 y572.length co22 : Value).ownBlock ∧ some k_ ≠ (v576 : Value).ownBlock ∧ some k_ ≠ (.slice Ao26 y579.length co26 : Value).ownBlock)) (okp := (fun k_ => ((P0_ k_ ∨ P1_ k_) ∨ w.heap.size ≤ k_) ∧ some k_ ≠ (.slice Ao18 y565.length co18 : Value).ownBlock ∧ some k_ ≠ (v569 : Value).ownBlock ∧ some k_ ≠ (.slice Ao22 y572.length co22 : Value).ownBlock ∧ some k_ ≠ (v576 : Value).ownBlock ∧ some k_ ≠ (.slice Ao26 y579.length co26 : Value).ownBlock)) ?hr ?hp (fun _ hk => hk) ((show ∀ k_, w24.heap.size ≤ k_ → (fun k_ => ((P0_ k_ ∨ P1_ k_) ∨ w.heap.size ≤ k_) ∧ some k_ ≠ (.slice Ao18 y565.length co18 : Value).ownBlock ∧ some k_ ≠ (v569 : Value).ownBlock ∧ some k_ ≠ (.slice Ao22 y572.length co22 : Value).ownBlock ∧ some k_ ≠ (v576 : Value).ownBlock ∧ some k_ ≠ (.slice Ao26 y579.length co26 : Value).ownBlock) k_ from fun k_ hk => ⟨(.inr (Nat.le_trans (below_size (bq0_ HB.out)) hk)), Kd.fresh' (Kd.N_lt (mvN_ HO567.out)) k_ hk, Kd.fresh' (Kd.R_lt (mvR_ HO570.out)) k_ hk, Kd.fresh' (Kd.N_lt (mvN_ HO574.out)) k_ hk, Kd.fresh' (Kd.R_lt (mvR_ HO577.out)) k_ hk, Kd.fresh' (Kd.R_lt (mvR_ HO581.out)) k_ hk⟩) _ (Nat.le_refl _)) (Below.refl _ _) (Nat.le_refl _) (by simp) ?_; (case hd => rfl); (case hg => rfl); (case hr => first | (go_simp; done) | (go_simp; rfl)); (case hp => exact (Reps.one (show Kd.FK (Kd.slice 3 (Kd.int .i64)) _ _ l0 [.slice A0 l0.length c0] from (Kd.FK_slice_mk (Kd.V_reads' (Kd.V_mono (ok' := (fun k_ => ((P0_ k_ ∨ P1_ k_) ∨ w.heap.size ≤ k_) ∧ some k_ ≠ (.slice Ao18 y565.length co18 : Value).ownBlock ∧ some k_ ≠ (v569 : Value).ownBlock ∧ some k_ ≠ (.slice Ao22 y572.length co22 : Value).ownBlock ∧ some k_ ≠ (v576 : Value).ownBlock ∧ some k_ ≠ (.slice Ao26 y579.length co26 : Value).ownBlock)) (HO_0.out) (fun k_ hk => ⟨hk.1.1.1.1.1, ⟨hk.1.1.1.1.2, ⟨hk.1.1.1.2, ⟨hk.1.1.2, ⟨hk.1.2, hk.2⟩⟩⟩⟩⟩))).2.1 (Kd.V_F (Kd.V_mono (ok' := (fun k_ => ((P0_ k_ ∨ P1_ k_) ∨ w.heap.size ≤ k_) ∧ some k_ ≠ (.slice Ao18 y565.length co18 : Value).ownBlock ∧ some k_ ≠ (v569 : Value).ownBlock ∧ some k_ ≠ (.slice Ao22 y572.length co22 : Value).ownBlock ∧ some k_ ≠ (v576 : Value).ownBlock ∧ some k_ ≠ (.slice Ao26 y579.length co26 : Value).ownBlock)) (HO_0.out) (fun k_ hk => ⟨hk.1.1.1.1.1, ⟨hk.1.1.1.1.2, ⟨hk.1.1.1.2, ⟨hk.1.1.2, ⟨hk.1.2, hk.2⟩⟩⟩⟩⟩))))) (Reps.one (show Kd.FK (Kd.slice 3 (Kd.int .i64)) _ _ l1 [.slice A1 l1.length c1] from (Kd.FK_slice_mk (Kd.V_reads' (Kd.V_mono (ok' := (fun k_ => ((P0_ k_ ∨ P1_ k_) ∨ w.heap.size ≤ k_) ∧ some k_ ≠ (.slice Ao18 y565.length co18 : Value).ownBlock ∧ some k_ ≠ (v569 : Value).ownBlock ∧ some k_ ≠ (.slice Ao22 y572.length co22 : Value).ownBlock ∧ some k_ ≠ (v576 : Value).ownBlock ∧ some k_ ≠ (.slice Ao26 y579.length co26 : Value).ownBlock)) (HO_1.out) (fun k_ hk => ⟨hk.1.1.1.1.1, ⟨hk.1.1.1.1.2, ⟨hk.1.1.1.2, ⟨hk.1.1.2, ⟨hk.1.2, hk.2⟩⟩⟩⟩⟩))).2.1 (Kd.V_F (Kd.V_mono (ok' := (fun k_ => ((P0_ k_ ∨ P1_ k_) ∨ w.heap.size ≤ k_) ∧ some k_ ≠ (.slice Ao18 y565.length co18 : Value).ownBlock ∧ some k_ ≠ (v569 : Value).ownBlock ∧ some k_ ≠ (.slice Ao22 y572.length co22 : Value).ownBlock ∧ some k_ ≠ (v576 : Value).ownBlock ∧ some k_ ≠ (.slice Ao26 y579.length co26 : Value).ownBlock)) (HO_1.out) (fun k_ hk => ⟨hk.1.1.1.1.1, ⟨hk.1.1.1.1.2, ⟨hk.1.1.1.2, ⟨hk.1.1.2, ⟨hk.1.2, hk.2⟩⟩⟩⟩⟩))))) (Reps.none _ _)))); intro v583 w27 ho28 hb hg_ hnew_; clear hg_ hnew_; (first | rw [← Ny582.out] at ho28 | (simp only [Int.reduceToNat] at ho28; rw [← Ny582.out] at ho28)); have HO584 := Aside0.mk (Kd.N_lower ho28 (below_size (bq0_ HB.out))); replace HO_0 := Aside0.mk (Kd.V_elder' (mvV_ HO_0.out) (Kd.N_base ho28) hb); replace HO_1 := Aside0.mk (Kd.V_elder' (mvV_ HO_1.out) (Kd.N_base ho28) hb); replace HO567 := Aside0.mk (Kd.N_elder' (mvN_ HO567.out) (Kd.N_base ho28) hb); replace HO570 := Aside0.mk (Kd.R_below (mvR_ HO570.out) hb); replace HO574 := Aside0.mk (Kd.N_elder' (mvN_ HO574.out) (Kd.N_base ho28) hb); replace HO577 := Aside0.mk (Kd.R_below (mvR_ HO577.out) hb); replace HO581 := Aside0.mk (Kd.R_below (mvR_ HO581.out) hb); replace HB := Aside0.mk (below_step (bq0_ HB.out) hb); clear hb ho28; obtain ⟨Ao29, co29, eo29⟩ := Kd.N_slice HO584.out; subst eo29) | ((with_reducible refine gate_callee (f := 11) rfl ?_); refine gL_ (some 56) Try.func11 #[.agg #[.int .i64 43, .slice none 0 0, .slice Ao26 y579.length co26], .slice Ao29 y582.length co29] ?_; (refine (infer_Node.calls kj5 43 _ _ ([] : List Int) _ _ y579 _ _ y582 t585 t588 _ ?side1 ?side2 ?side3 ?side4 ?side5 ?side6 A12.out).mono ?_); (case side1 => exact Kd.C_nil _ _); (case side2 => exact Nat.le_refl _); (case side3 => exact mvC_ ((Kd.R_reads' HO581.out).2.2)); (case side4 => exact (Kd.R_reads' HO581.out).2.1); (case side5 => exact mvC_ ((Kd.N_reads' HO584.out).2.2)); (case side6 => exact (Kd.N_reads' HO584.out).2.1); rintro e w30 ⟨v586, rfl, ho0, hb⟩; refine ⟨_, rfl, ?_⟩; have HO587 := Aside0.mk (Kd.R_lower (Kd.R_new' (Kd.R_new' (Kd.R_new' (Kd.R_newM (M := fun k_ => (w.heap.size ≤ k_)) ho0 (below_size (bq0_ HB.out)) (fun k_ h_ => h_)) (Kd.R_lt (mvR_ HO570.out))) (Kd.R_lt (mvR_ HO577.out))) (Kd.R_lt (mvR_ HO581.out))) (below_size (bq0_ HB.out))); replace HO_0 := Aside0.mk (Kd.V_elder' (mvV_ HO_0.out) (Kd.R_base ho0) hb); replace HO_1 := Aside0.mk (Kd.V_elder' (mvV_ HO_1.out) (Kd.R_base ho0) hb); replace HO567 := Aside0.mk (Kd.N_elder' (mvN_ HO567.out) (Kd.R_base ho0) hb); replace HO570 := Aside0.mk (Kd.R_elder' (mvR_ HO570.out) (Kd.R_base ho0) hb); replace HO574 := Aside0.mk (Kd.N_elder' (mvN_ HO574.out) (Kd.R_base ho0) hb); replace HO577 := Aside0.mk (Kd.R_elder' (mvR_ HO577.out) (Kd.R_base ho0) hb); replace HO581 := Aside0.mk (Kd.R_elder' (mvR_ HO581.out) (Kd.R_base ho0) hb); replace HO584 := Aside0.mk (Kd.N_elder' (mvN_ HO584.out) (Kd.R_base ho0) hb); replace HB := Aside0.mk (below_step (bq0_ HB.out) hb); (try clear hb); (try clear ho0)) | ((with_reducible refine gate_dst (N := 61) rfl ?_); (try (refine gate_guard (by rfl) ?_; dsimp only)); refine Kd.R_lit (Kd.int .i64) _ 3 ?hg (N := 61) ?hd (xs := ([a2] : List Int)) (inner := [.int .i64 a2]) (ok := fun _ => True) (okp := fun _ => True) ?hr ?hp (fun _ hk => hk) trivial (Below.refl _ _) (Nat.le_refl _) (by simp) ?_; (case hd => rfl); (case hg => rfl); (case hr => first | (go_simp; done) | (go_simp; rfl)); (case hp => exact (Reps.one (show Kd.M (Kd.int .i64) _ _ _ a2 [.int .i64 a2] from rfl) (Reps.none _ _))); intro v590 w31 ho32 hb hg_ hnew_; clear hg_ hnew_; (first | rw [← Ny589.out] at ho32 | (simp only [Int.reduceToNat] at ho32; rw [← Ny589.out] at ho32)); have HO591 := Aside0.mk (Kd.R_lower (Kd.R_new' (Kd.R_new' (Kd.R_new' (Kd.R_new' (Kd.R_newM (M := fun k_ => (w.heap.size ≤ k_)) ho32 (below_size (bq0_ HB.out)) (fun k_ h_ => h_)) (Kd.R_lt (mvR_ HO570.out))) (Kd.R_lt (mvR_ HO577.out))) (Kd.R_lt (mvR_ HO581.out))) (Kd.R_lt (mvR_ HO587.out))) (below_size (bq0_ HB.out))); replace HO_0 := Aside0.mk (Kd.V_elder' (mvV_ HO_0.out) (Kd.R_base ho32) hb); replace HO_1 := Aside0.mk (Kd.V_elder' (mvV_ HO_1.out) (Kd.R_base ho32) hb); replace HO567 := Aside0.mk (Kd.N_elder' (mvN_ HO567.out) (Kd.R_base ho32) hb); replace HO570 := Aside0.mk (Kd.R_elder' (mvR_ HO570.out) (Kd.R_base ho32) hb); replace HO574 := Aside0.mk (Kd.N_elder' (mvN_ HO574.out) (Kd.R_base ho32) hb); replace HO577 := Aside0.mk (Kd.R_elder' (mvR_ HO577.out) (Kd.R_base ho32) hb); replace HO581 := Aside0.mk (Kd.R_elder' (mvR_ HO581.out) (Kd.R_base ho32) hb); replace HO584 := Aside0.mk (Kd.N_elder' (mvN_ HO584.out) (Kd.R_base ho32) hb); replace HO587 := Aside0.mk (Kd.R_elder' (mvR_ HO587.out) (Kd.R_base ho32) hb); replace HB := Aside0.mk (below_step (bq0_ HB.out) hb); clear hb ho32; obtain ⟨Ao33, co33, eo33⟩ := Kd.R_slice HO591.out; subst eo33) | ((with_reducible refine gate_dst (N := 64) rfl ?_); (try (refine gate_guard (by rfl) ?_; dsimp only)); refine Kd.N_lit (Kd.slice 3 (Kd.int .i64)) _ 23 ?hg (N' := 64) ?hd (xs := ([l0] : List (List Int))) (inner := [.slice A0 l0.length c0]) (ok := (fun k_ => ((P0_ k_ ∨ P1_ k_) ∨ w.heap.size ≤ k_) ∧ some k_ ≠ (.slice Ao18 y565.length co18 : Value).ownBlock ∧ some k_ ≠ (v569 : Value).ownBlock ∧ some k_ ≠ (.slice Ao22 y572.length co22 : Value).ownBlock ∧ some k_ ≠ (v576 : Value).ownBlock ∧ some k_ ≠ (.slice Ao26 y579.length co26 : Value).ownBlock ∧ some k_ ≠ (.slice Ao29 y582.length co29 : Value).ownBlock ∧ some k_ ≠ (v586 : Value).ownBlock ∧ some k_ ≠ (.slice Ao33 y589.length co33 : Value).ownBlock)) (okp := (fun k_ => ((P0_ k_ ∨ P1_ k_) ∨ w.heap.size ≤ k_) ∧ some k_ ≠ (.slice Ao18 y565.length co18 : Value).ownBlock ∧ some k_ ≠ (v569 : Value).ownBlock ∧ some k_ ≠ (.slice Ao22 y572.length co22 : Value).ownBlock ∧ some k_ ≠ (v576 : Value).ownBlock ∧ some k_ ≠ (.slice Ao26 y579.length co26 : Value).ownBlock ∧ some k_ ≠ (.slice Ao29 y582.length co29 : Value).ownBlock ∧ some k_ ≠ (v586 : Value).ownBlock ∧ some k_ ≠ (.slice Ao33 y589.length co33 : Value).ownBlock)) ?hr ?hp (fun _ hk => hk) ((show ∀ k_, w31.heap.size ≤ k_ → (fun k_ => ((P0_ k_ ∨ P1_ k_) ∨ w.heap.size ≤ k_) ∧ some k_ ≠ (.slice Ao18 y565.length co18 : Value).ownBlock ∧ some k_ ≠ (v569 : Value).ownBlock ∧ some k_ ≠ (.slice Ao22 y572.length co22 : Value).ownBlock ∧ some k_ ≠ (v576 : Value).ownBlock ∧ some k_ ≠ (.slice Ao26 y579.length co26 : Value).ownBlock ∧ some k_ ≠ (.slice Ao29 y582.length co29 : Value).ownBlock ∧ some k_ ≠ (v586 : Value).ownBlock ∧ some k_ ≠ (.slice Ao33 y589.length co33 : Value).ownBlock) k_ from fun k_ hk => ⟨(.inr (Nat.le_trans (below_size (bq0_ HB.out)) hk)), Kd.fresh' (Kd.N_lt (mvN_ HO567.out)) k_ hk, Kd.fresh' (Kd.R_lt (mvR_ HO570.out)) k_ hk, Kd.fresh' (Kd.N_lt (mvN_ HO574.out)) k_ hk, Kd.fresh' (Kd.R_lt (mvR_ HO577.out)) k_ hk, Kd.fresh' (Kd.R_lt (mvR_ HO581.out)) k_ hk, Kd.fresh' (Kd.N_lt (mvN_ HO584.out)) k_ hk, Kd.fresh' (Kd.R_lt (mvR_ HO587.out)) k_ hk, Kd.fresh' (Kd.R_lt (mvR_ HO591.out)) k_ hk⟩) _ (Nat.le_refl _)) (Below.refl _ _) (Nat.le_refl _) (by simp) ?_; (case hd => rfl); (case hg => rfl); (case hr => first | (go_simp; done) | (go_simp; rfl)); (case hp => exact (Reps.one (show Kd.FK (Kd.slice 3 (Kd.int .i64)) _ _ l0 [.slice A0 l0.length c0] from (Kd.FK_slice_mk (Kd.V_reads' (Kd.V_mono (ok' := (fun k_ => ((P0_ k_ ∨ P1_ k_) ∨ w.heap.size ≤ k_) ∧ some k_ ≠ (.slice Ao18 y565.length co18 : Value).ownBlock ∧ some k_ ≠ (v569 : Value).ownBlock ∧ some k_ ≠ (.slice Ao22 y572.length co22 : Value).ownBlock ∧ some k_ ≠ (v576 : Value).ownBlock ∧ some k_ ≠ (.slice Ao26 y579.length co26 : Value).ownBlock ∧ some k_ ≠ (.slice Ao29 y582.length co29 : Value).ownBlock ∧ some k_ ≠ (v586 : Value).ownBlock ∧ some k_ ≠ (.slice Ao33 y589.length co33 : Value).ownBlock)) (HO_0.out) (fun k_ hk => ⟨hk.1.1.1.1.1.1.1.1, ⟨hk.1.1.1.1.1.1.1.2, ⟨hk.1.1.1.1.1.1.2, ⟨hk.1.1.1.1.1.2, ⟨hk.1.1.1.1.2, ⟨hk.1.1.1.2, ⟨hk.1.1.2, ⟨hk.1.2, hk.2⟩⟩⟩⟩⟩⟩⟩⟩))).2.1 (Kd.V_F (Kd.V_mono (ok' := (fun k_ => ((P0_ k_ ∨ P1_ k_) ∨ w.heap.size ≤ k_) ∧ some k_ ≠ (.slice Ao18 y565.length co18 : Value).ownBlock ∧ some k_ ≠ (v569 : Value).ownBlock ∧ some k_ ≠ (.slice Ao22 y572.length co22 : Value).ownBlock ∧ some k_ ≠ (v576 : Value).ownBlock ∧ some k_ ≠ (.slice Ao26 y579.length co26 : Value).ownBlock ∧ some k_ ≠ (.slice Ao29 y582.length co29 : Value).ownBlock ∧ some k_ ≠ (v586 : Value).ownBlock ∧ some k_ ≠ (.slice Ao33 y589.length co33 : Value).ownBlock)) (HO_0.out) (fun k_ hk => ⟨hk.1.1.1.1.1.1.1.1, ⟨hk.1.1.1.1.1.1.1.2, ⟨hk.1.1.1.1.1.1.2, ⟨hk.1.1.1.1.1.2, ⟨hk.1.1.1.1.2, ⟨hk.1.1.1.2, ⟨hk.1.1.2, ⟨hk.1.2, hk.2⟩⟩⟩⟩⟩⟩⟩⟩))))) (Reps.none _ _))); intro v593 w34 ho35 hb hg_ hnew_; clear hg_ hnew_; (first | rw [← Ny592.out] at ho35 | (simp only [Int.reduceToNat] at ho35; rw [← Ny592.out] at ho35)); have HO594 := Aside0.mk (Kd.N_lower ho35 (below_size (bq0_ HB.out))); replace HO_0 := Aside0.mk (Kd.V_elder' (mvV_ HO_0.out) (Kd.N_base ho35) hb); replace HO_1 := Aside0.mk (Kd.V_elder' (mvV_ HO_1.out) (Kd.N_base ho35) hb); replace HO567 := Aside0.mk (Kd.N_elder' (mvN_ HO567.out) (Kd.N_base ho35) hb); replace HO570 := Aside0.mk (Kd.R_below (mvR_ HO570.out) hb); replace HO574 := Aside0.mk (Kd.N_elder' (mvN_ HO574.out) (Kd.N_base ho35) hb); replace HO577 := Aside0.mk (Kd.R_below (mvR_ HO577.out) hb); replace HO581 := Aside0.mk (Kd.R_below (mvR_ HO581.out) hb); replace HO584 := Aside0.mk (Kd.N_elder' (mvN_ HO584.out) (Kd.N_base ho35) hb); replace HO587 := Aside0.mk (Kd.R_below (mvR_ HO587.out) hb); replace HO591 := Aside0.mk (Kd.R_below (mvR_ HO591.out) hb); replace HB := Aside0.mk (below_step (bq0_ HB.out) hb); clear hb ho35; obtain ⟨Ao36, co36, eo36⟩ := Kd.N_slice HO594.out; subst eo36) | ((with_reducible refine gate_callee (f := 11) rfl ?_); refine gL_ (some 65) Try.func11 #[.agg #[.int .i64 50, .slice none 0 0, .slice Ao33 y589.length co33], .slice Ao36 y592.length co36] ?_; (refine (infer_Node.calls kj5 50 _ _ ([] : List Int) _ _ y589 _ _ y592 t595 t598 _ ?side1 ?side2 ?side3 ?side4 ?side5 ?side6 A13.out).mono ?_); (case side1 => exact Kd.C_nil _ _); (case side2 => exact Nat.le_refl _); (case side3 => exact mvC_ ((Kd.R_reads' HO591.out).2.2)); (case side4 => exact (Kd.R_reads' HO591.out).2.1); (case side5 => exact mvC_ ((Kd.N_reads' HO594.out).2.2)); (case side6 => exact (Kd.N_reads' HO594.out).2.1); rintro e w37 ⟨v596, rfl, ho0, hb⟩; refine ⟨_, rfl, ?_⟩; have HO597 := Aside0.mk (Kd.R_lower (Kd.R_new' (Kd.R_new' (Kd.R_new' (Kd.R_new' (Kd.R_new' (Kd.R_newM (M := fun k_ => (w.heap.size ≤ k_)) ho0 (below_size (bq0_ HB.out)) (fun k_ h_ => h_)) (Kd.R_lt (mvR_ HO570.out))) (Kd.R_lt (mvR_ HO577.out))) (Kd.R_lt (mvR_ HO581.out))) (Kd.R_lt (mvR_ HO587.out))) (Kd.R_lt (mvR_ HO591.out))) (below_size (bq0_ HB.out))); replace HO_0 := Aside0.mk (Kd.V_elder' (mvV_ HO_0.out) (Kd.R_base ho0) hb); replace HO_1 := Aside0.mk (Kd.V_elder' (mvV_ HO_1.out) (Kd.R_base ho0) hb); replace HO567 := Aside0.mk (Kd.N_elder' (mvN_ HO567.out) (Kd.R_base ho0) hb); replace HO570 := Aside0.mk (Kd.R_elder' (mvR_ HO570.out) (Kd.R_base ho0) hb); replace HO574 := Aside0.mk (Kd.N_elder' (mvN_ HO574.out) (Kd.R_base ho0) hb); replace HO577 := Aside0.mk (Kd.R_elder' (mvR_ HO577.out) (Kd.R_base ho0) hb); replace HO581 := Aside0.mk (Kd.R_elder' (mvR_ HO581.out) (Kd.R_base ho0) hb); replace HO584 := Aside0.mk (Kd.N_elder' (mvN_ HO584.out) (Kd.R_base ho0) hb); replace HO587 := Aside0.mk (Kd.R_elder' (mvR_ HO587.out) (Kd.R_base ho0) hb); replace HO591 := Aside0.mk (Kd.R_elder' (mvR_ HO591.out) (Kd.R_base ho0) hb); replace HO594 := Aside0.mk (Kd.N_elder' (mvN_ HO594.out) (Kd.R_base ho0) hb); replace HB := Aside0.mk (below_step (bq0_ HB.out) hb); (try clear hb); (try clear ho0)) | ((with_reducible refine gate_dst (N := 71) rfl ?_); (try (refine gate_guard (by rfl) ?_; dsimp only)); refine Kd.R_lit (Kd.int .i64) _ 3 ?hg (N := 71) ?hd (xs := ([a2, 0, a3] : List Int)) (inner := [.int .i64 a2, .int .i64 0, .int .i64 a3]) (ok := fun _ => True) (okp := fun _ => True) ?hr ?hp (fun _ hk => hk) trivial (Below.refl _ _) (Nat.le_refl _) (by simp) ?_; (case hd => rfl); (case hg => rfl); (case hr => first | (go_simp; done) | (go_simp; rfl)); (case hp => exact (Reps.one (show Kd.M (Kd.int .i64) _ _ _ a2 [.int .i64 a2] from rfl) (Reps.one (show Kd.M (Kd.int .i64) _ _ _ 0 [.int .i64 0] from rfl) (Reps.one (show Kd.M (Kd.int .i64) _ _ _ a3 [.int .i64 a3] from rfl) (Reps.none _ _))))); intro v600 w38 ho39 hb hg_ hnew_; clear hg_ hnew_; (first | rw [← Ny599.out] at ho39 | (simp only [Int.reduceToNat] at ho39; rw [← Ny599.out] at ho39)); have HO601 := Aside0.mk (Kd.R_lower (Kd.R_new' (Kd.R_new' (Kd.R_new' (Kd.R_new' (Kd.R_new' (Kd.R_new' (Kd.R_newM (M := fun k_ => (w.heap.size ≤ k_)) ho39 (below_size (bq0_ HB.out)) (fun k_ h_ => h_)) (Kd.R_lt (mvR_ HO570.out))) (Kd.R_lt (mvR_ HO577.out))) (Kd.R_lt (mvR_ HO581.out))) (Kd.R_lt (mvR_ HO587.out))) (Kd.R_lt (mvR_ HO591.out))) (Kd.R_lt (mvR_ HO597.out))) (below_size (bq0_ HB.out))); replace HO_0 := Aside0.mk (Kd.V_elder' (mvV_ HO_0.out) (Kd.R_base ho39) hb); replace HO_1 := Aside0.mk (Kd.V_elder' (mvV_ HO_1.out) (Kd.R_base ho39) hb); replace HO567 := Aside0.mk (Kd.N_elder' (mvN_ HO567.out) (Kd.R_base ho39) hb); replace HO570 := Aside0.mk (Kd.R_elder' (mvR_ HO570.out) (Kd.R_base ho39) hb); replace HO574 := Aside0.mk (Kd.N_elder' (mvN_ HO574.out) (Kd.R_base ho39) hb); replace HO577 := Aside0.mk (Kd.R_elder' (mvR_ HO577.out) (Kd.R_base ho39) hb); replace HO581 := Aside0.mk (Kd.R_elder' (mvR_ HO581.out) (Kd.R_base ho39) hb); replace HO584 := Aside0.mk (Kd.N_elder' (mvN_ HO584.out) (Kd.R_base ho39) hb); replace HO587 := Aside0.mk (Kd.R_elder' (mvR_ HO587.out) (Kd.R_base ho39) hb); replace HO591 := Aside0.mk (Kd.R_elder' (mvR_ HO591.out) (Kd.R_base ho39) hb); replace HO594 := Aside0.mk (Kd.N_elder' (mvN_ HO594.out) (Kd.R_base ho39) hb); replace HO597 := Aside0.mk (Kd.R_elder' (mvR_ HO597.out) (Kd.R_base ho39) hb); replace HB := Aside0.mk (below_step (bq0_ HB.out) hb); clear hb ho39; obtain ⟨Ao40, co40, eo40⟩ := Kd.R_slice HO601.out; subst eo40) | ((with_reducible refine gate_dst (N := 74) rfl ?_); (try (refine gate_guard (by rfl) ?_; dsimp only)); refine Kd.N_lit (Kd.slice 3 (Kd.int .i64)) _ 23 ?hg (N' := 74) ?hd (xs := ([l0] : List (List Int))) (inner := [.slice A0 l0.length c0]) (ok := (fun k_ => ((P0_ k_ ∨ P1_ k_) ∨ w.heap.size ≤ k_) ∧ some k_ ≠ (.slice Ao18 y565.length co18 : Value).ownBlock ∧ some k_ ≠ (v569 : Value).ownBlock ∧ some k_ ≠ (.slice Ao22 y572.length co22 : Value).ownBlock ∧ some k_ ≠ (v576 : Value).ownBlock ∧ some k_ ≠ (.slice Ao26 y579.length co26 : Value).ownBlock ∧ some k_ ≠ (.slice Ao29 y582.length co29 : Value).ownBlock ∧ some k_ ≠ (v586 : Value).ownBlock ∧ some k_ ≠ (.slice Ao33 y589.length co33 : Value).ownBlock ∧ some k_ ≠ (.slice Ao36 y592.length co36 : Value).ownBlock ∧ some k_ ≠ (v596 : Value).ownBlock ∧ some k_ ≠ (.slice Ao40 y599.length co40 : Value).ownBlock)) (okp := (fun k_ => ((P0_ k_ ∨ P1_ k_) ∨ w.heap.size ≤ k_) ∧ some k_ ≠ (.slice Ao18 y565.length co18 : Value).ownBlock ∧ some k_ ≠ (v569 : Value).ownBlock ∧ some k_ ≠ (.slice Ao22 y572.length co22 : Value).ownBlock ∧ some k_ ≠ (v576 : Value).ownBlock ∧ some k_ ≠ (.slice Ao26 y579.length co26 : Value).ownBlock ∧ some k_ ≠ (.slice Ao29 y582.length co29 : Value).ownBlock ∧ some k_ ≠ (v586 : Value).ownBlock ∧ some k_ ≠ (.slice Ao33 y589.length co33 : Value).ownBlock ∧ some k_ ≠ (.slice Ao36 y592.length co36 : Value).ownBlock ∧ some k_ ≠ (v596 : Value).ownBlock ∧ some k_ ≠ (.slice Ao40 y599.length co40 : Value).ownBlock)) ?hr ?hp (fun _ hk => hk) ((show ∀ k_, w38.heap.size ≤ k_ → (fun k_ => ((P0_ k_ ∨ P1_ k_) ∨ w.heap.size ≤ k_) ∧ some k_ ≠ (.slice Ao18 y565.length co18 : Value).ownBlock ∧ some k_ ≠ (v569 : Value).ownBlock ∧ some k_ ≠ (.slice Ao22 y572.length co22 : Value).ownBlock ∧ some k_ ≠ (v576 : Value).ownBlock ∧ some k_ ≠ (.slice Ao26 y579.length co26 : Value).ownBlock ∧ some k_ ≠ (.slice Ao29 y582.length co29 : Value).ownBlock ∧ some k_ ≠ (v586 : Value).ownBlock ∧ some k_ ≠ (.slice Ao33 y589.length co33 : Value).ownBlock ∧ some k_ ≠ (.slice Ao36 y592.length co36 : Value).ownBlock ∧ some k_ ≠ (v596 : Value).ownBlock ∧ some k_ ≠ (.slice Ao40 y599.length co40 : Value).ownBlock) k_ from fun k_ hk => ⟨(.inr (Nat.le_trans (below_size (bq0_ HB.out)) hk)), Kd.fresh' (Kd.N_lt (mvN_ HO567.out)) k_ hk, Kd.fresh' (Kd.R_lt (mvR_ HO570.out)) k_ hk, Kd.fresh' (Kd.N_lt (mvN_ HO574.out)) k_ hk, Kd.fresh' (Kd.R_lt (mvR_ HO577.out)) k_ hk, Kd.fresh' (Kd.R_lt (mvR_ HO581.out)) k_ hk, Kd.fresh' (Kd.N_lt (mvN_ HO584.out)) k_ hk, Kd.fresh' (Kd.R_lt (mvR_ HO587.out)) k_ hk, Kd.fresh' (Kd.R_lt (mvR_ HO591.out)) k_ hk, Kd.fresh' (Kd.N_lt (mvN_ HO594.out)) k_ hk, Kd.fresh' (Kd.R_lt (mvR_ HO597.out)) k_ hk, Kd.fresh' (Kd.R_lt (mvR_ HO601.out)) k_ hk⟩) _ (Nat.le_refl _)) (Below.refl _ _) (Nat.le_refl _) (by simp) ?_; (case hd => rfl); (case hg => rfl); (case hr => first | (go_simp; done) | (go_simp; rfl)); (case hp => exact (Reps.one (show Kd.FK (Kd.slice 3 (Kd.int .i64)) _ _ l0 [.slice A0 l0.length c0] from (Kd.FK_slice_mk (Kd.V_reads' (Kd.V_mono (ok' := (fun k_ => ((P0_ k_ ∨ P1_ k_) ∨ w.heap.size ≤ k_) ∧ some k_ ≠ (.slice Ao18 y565.length co18 : Value).ownBlock ∧ some k_ ≠ (v569 : Value).ownBlock ∧ some k_ ≠ (.slice Ao22 y572.length co22 : Value).ownBlock ∧ some k_ ≠ (v576 : Value).ownBlock ∧ some k_ ≠ (.slice Ao26 y579.length co26 : Value).ownBlock ∧ some k_ ≠ (.slice Ao29 y582.length co29 : Value).ownBlock ∧ some k_ ≠ (v586 : Value).ownBlock ∧ some k_ ≠ (.slice Ao33 y589.length co33 : Value).ownBlock ∧ some k_ ≠ (.slice Ao36 y592.length co36 : Value).ownBlock ∧ some k_ ≠ (v596 : Value).ownBlock ∧ some k_ ≠ (.slice Ao40 y599.length co40 : Value).ownBlock)) (HO_0.out) (fun k_ hk => ⟨hk.1.1.1.1.1.1.1.1.1.1.1, ⟨hk.1.1.1.1.1.1.1.1.1.1.2, ⟨hk.1.1.1.1.1.1.1.1.1.2, ⟨hk.1.1.1.1.1.1.1.1.2, ⟨hk.1.1.1.1.1.1.1.2, ⟨hk.1.1.1.1.1.1.2, ⟨hk.1.1.1.1.1.2, ⟨hk.1.1.1.1.2, ⟨hk.1.1.1.2, ⟨hk.1.1.2, ⟨hk.1.2, hk.2⟩⟩⟩⟩⟩⟩⟩⟩⟩⟩⟩))).2.1 (Kd.V_F (Kd.V_mono (ok' := (fun k_ => ((P0_ k_ ∨ P1_ k_) ∨ w.heap.size ≤ k_) ∧ some k_ ≠ (.slice Ao18 y565.length co18 : Value).ownBlock ∧ some k_ ≠ (v569 : Value).ownBlock ∧ some k_ ≠ (.slice Ao22 y572.length co22 : Value).ownBlock ∧ some k_ ≠ (v576 : Value).ownBlock ∧ some k_ ≠ (.slice Ao26 y579.length co26 : Value).ownBlock ∧ some k_ ≠ (.slice Ao29 y582.length co29 : Value).ownBlock ∧ some k_ ≠ (v586 : Value).ownBlock ∧ some k_ ≠ (.slice Ao33 y589.length co33 : Value).ownBlock ∧ some k_ ≠ (.slice Ao36 y592.length co36 : Value).ownBlock ∧ some k_ ≠ (v596 : Value).ownBlock ∧ some k_ ≠ (.slice Ao40 y599.length co40 : Value).ownBlock)) (HO_0.out) (fun k_ hk => ⟨hk.1.1.1.1.1.1.1.1.1.1.1, ⟨hk.1.1.1.1.1.1.1.1.1.1.2, ⟨hk.1.1.1.1.1.1.1.1.1.2, ⟨hk.1.1.1.1.1.1.1.1.2, ⟨hk.1.1.1.1.1.1.1.2, ⟨hk.1.1.1.1.1.1.2, ⟨hk.1.1.1.1.1.2, ⟨hk.1.1.1.1.2, ⟨hk.1.1.1.2, ⟨hk.1.1.2, ⟨hk.1.2, hk.2⟩⟩⟩⟩⟩⟩⟩⟩⟩⟩⟩))))) (Reps.none _ _))); intro v603 w41 ho42 hb hg_ hnew_; clear hg_ hnew_; (first | rw [← Ny602.out] at ho42 | (simp only [Int.reduceToNat] at ho42; rw [← Ny602.out] at ho42)); have HO604 := Aside0.mk (Kd.N_lower ho42 (below_size (bq0_ HB.out))); replace HO_0 := Aside0.mk (Kd.V_elder' (mvV_ HO_0.out) (Kd.N_base ho42) hb); replace HO_1 := Aside0.mk (Kd.V_elder' (mvV_ HO_1.out) (Kd.N_base ho42) hb); replace HO567 := Aside0.mk (Kd.N_elder' (mvN_ HO567.out) (Kd.N_base ho42) hb); replace HO570 := Aside0.mk (Kd.R_below (mvR_ HO570.out) hb); replace HO574 := Aside0.mk (Kd.N_elder' (mvN_ HO574.out) (Kd.N_base ho42) hb); replace HO577 := Aside0.mk (Kd.R_below (mvR_ HO577.out) hb); replace HO581 := Aside0.mk (Kd.R_below (mvR_ HO581.out) hb); replace HO584 := Aside0.mk (Kd.N_elder' (mvN_ HO584.out) (Kd.N_base ho42) hb); replace HO587 := Aside0.mk (Kd.R_below (mvR_ HO587.out) hb); replace HO591 := Aside0.mk (Kd.R_below (mvR_ HO591.out) hb); replace HO594 := Aside0.mk (Kd.N_elder' (mvN_ HO594.out) (Kd.N_base ho42) hb); replace HO597 := Aside0.mk (Kd.R_below (mvR_ HO597.out) hb); replace HO601 := Aside0.mk (Kd.R_below (mvR_ HO601.out) hb); replace HB := Aside0.mk (below_step (bq0_ HB.out) hb); clear hb ho42; obtain ⟨Ao43, co43, eo43⟩ := Kd.N_slice HO604.out; subst eo43) | ((with_reducible refine gate_callee (f := 11) rfl ?_); refine gL_ (some 75) Try.func11 #[.agg #[.int .i64 42, .slice none 0 0, .slice Ao40 y599.length co40], .slice Ao43 y602.length co43] ?_; (refine (infer_Node.calls kj5 42 _ _ ([] : List Int) _ _ y599 _ _ y602 t605 t608 _ ?side1 ?side2 ?side3 ?side4 ?side5 ?side6 A14.out).mono ?_); (case side1 => exact Kd.C_nil _ _); (case side2 => exact Nat.le_refl _); (case side3 => exact mvC_ ((Kd.R_reads' HO601.out).2.2)); (case side4 => exact (Kd.R_reads' HO601.out).2.1); (case side5 => exact mvC_ ((Kd.N_reads' HO604.out).2.2)); (case side6 => exact (Kd.N_reads' HO604.out).2.1); rintro e w44 ⟨v606, rfl, ho0, hb⟩; refine ⟨_, rfl, ?_⟩; have HO607 := Aside0.mk (Kd.R_lower (Kd.R_new' (Kd.R_new' (Kd.R_new' (Kd.R_new' (Kd.R_new' (Kd.R_new' (Kd.R_new' (Kd.R_newM (M := fun k_ => (w.heap.size ≤ k_)) ho0 (below_size (bq0_ HB.out)) (fun k_ h_ => h_)) (Kd.R_lt (mvR_ HO570.out))) (Kd.R_lt (mvR_ HO577.out))) (Kd.R_lt (mvR_ HO581.out))) (Kd.R_lt (mvR_ HO587.out))) (Kd.R_lt (mvR_ HO591.out))) (Kd.R_lt (mvR_ HO597.out))) (Kd.R_lt (mvR_ HO601.out))) (below_size (bq0_ HB.out))); replace HO_0 := Aside0.mk (Kd.V_elder' (mvV_ HO_0.out) (Kd.R_base ho0) hb); replace HO_1 := Aside0.mk (Kd.V_elder' (mvV_ HO_1.out) (Kd.R_base ho0) hb); replace HO567 := Aside0.mk (Kd.N_elder' (mvN_ HO567.out) (Kd.R_base ho0) hb); replace HO570 := Aside0.mk (Kd.R_elder' (mvR_ HO570.out) (Kd.R_base ho0) hb); replace HO574 := Aside0.mk (Kd.N_elder' (mvN_ HO574.out) (Kd.R_base ho0) hb); replace HO577 := Aside0.mk (Kd.R_elder' (mvR_ HO577.out) (Kd.R_base ho0) hb); replace HO581 := Aside0.mk (Kd.R_elder' (mvR_ HO581.out) (Kd.R_base ho0) hb); replace HO584 := Aside0.mk (Kd.N_elder' (mvN_ HO584.out) (Kd.R_base ho0) hb); replace HO587 := Aside0.mk (Kd.R_elder' (mvR_ HO587.out) (Kd.R_base ho0) hb); replace HO591 := Aside0.mk (Kd.R_elder' (mvR_ HO591.out) (Kd.R_base ho0) hb); replace HO594 := Aside0.mk (Kd.N_elder' (mvN_ HO594.out) (Kd.R_base ho0) hb); replace HO597 := Aside0.mk (Kd.R_elder' (mvR_ HO597.out) (Kd.R_base ho0) hb); replace HO601 := Aside0.mk (Kd.R_elder' (mvR_ HO601.out) (Kd.R_base ho0) hb); replace HO604 := Aside0.mk (Kd.N_elder' (mvN_ HO604.out) (Kd.R_base ho0) hb); replace HB := Aside0.mk (below_step (bq0_ HB.out) hb); (try clear hb); (try clear ho0)))
    (try simp only [Act.put, sA_, sB_, sC_])
    go_cut [20] (fun v20 wc => ∃ (kq : Nat) (x20_14 : Bool), v20 = .bool x20_14 ∧ Aside0 (fullerlaw11_InferSizes.j1 kq l0 l1 a2 t564 t575 t578 t585 t588 t595 t598 t605 t608 x20_14 = some r) ∧ Aside0 (kq ≤ kj5) ∧ Aside0 (Kd.V (Kd.int .i64) 3 wc w.heap.size (fun k_ => ((P0_ k_ ∨ P1_ k_) ∨ w.heap.size ≤ k_) ∧ some k_ ≠ (v576 : Value).ownBlock ∧ some k_ ≠ (v586 : Value).ownBlock ∧ some k_ ≠ (v596 : Value).ownBlock ∧ some k_ ≠ (v606 : Value).ownBlock) (.slice A0 l0.length c0) l0) ∧ Aside0 (Kd.V (Kd.int .i64) 3 wc w.heap.size (fun k_ => ((P0_ k_ ∨ P1_ k_) ∨ w.heap.size ≤ k_) ∧ some k_ ≠ (v576 : Value).ownBlock ∧ some k_ ≠ (v586 : Value).ownBlock ∧ some k_ ≠ (v596 : Value).ownBlock ∧ some k_ ≠ (v606 : Value).ownBlock) (.slice A1 l1.length c1) l1) ∧ Aside0 (Kd.R (Kd.int .i64) 3 wc w.heap.size (fun k_ => (w.heap.size ≤ k_) ∧ some k_ ≠ (v586 : Value).ownBlock ∧ some k_ ≠ (v596 : Value).ownBlock ∧ some k_ ≠ (v606 : Value).ownBlock) v576 t575) ∧ Aside0 (Kd.R (Kd.int .i64) 3 wc w.heap.size (fun k_ => (w.heap.size ≤ k_) ∧ some k_ ≠ (v576 : Value).ownBlock ∧ some k_ ≠ (v596 : Value).ownBlock ∧ some k_ ≠ (v606 : Value).ownBlock) v586 t585) ∧ Aside0 (Kd.R (Kd.int .i64) 3 wc w.heap.size (fun k_ => (w.heap.size ≤ k_) ∧ some k_ ≠ (v576 : Value).ownBlock ∧ some k_ ≠ (v586 : Value).ownBlock ∧ some k_ ≠ (v606 : Value).ownBlock) v596 t595) ∧ Aside0 (Kd.R (Kd.int .i64) 3 wc w.heap.size (fun k_ => (w.heap.size ≤ k_) ∧ some k_ ≠ (v576 : Value).ownBlock ∧ some k_ ≠ (v586 : Value).ownBlock ∧ some k_ ≠ (v596 : Value).ownBlock) v606 t605) ∧ Aside0 (Below w.heap.size w wc))
    case first => as_aux_lemma =>
     have H := HC15.out
     clear HC15
     by_cases c45 : t571 = 0
     ·as_aux_lemma =>
      rw [if_pos c45] at H
      obtain ⟨c45b0, c45b1⟩ := eqT_ c45
      clear c45
      (first | rw [c45b0] | (simp only [i64_w, i32_w]; rw [c45b0]) | skip)
      replace H := Option.bind_eq_some_iff.mp H
      obtain ⟨t609, A460, H⟩ := H
      replace H : ((shape_Size.f kj5 l0).bind fun t610 => (fullerlaw11_InferSizes.j1 kj5 l0 l1 a2 t564 t575 t578 t585 t588 t595 t598 t605 t608 (t609 == t610))) = some r := H
      have A46 := Aside0.mk A460
      clear A460
      replace H := Option.bind_eq_some_iff.mp H
      obtain ⟨t610, A470, H⟩ := H
      replace H : (fullerlaw11_InferSizes.j1 kj5 l0 l1 a2 t564 t575 t578 t585 t588 t595 t598 t605 t608 (t609 == t610)) = some r := H
      have A47 := Aside0.mk A470
      clear A470
      have H' := Aside0.mk H
      clear H
      obtain ⟨Ao48, co48, eo48⟩ := Kd.R_slice HO570.out
      subst eo48
      go_wp2_with (first | (go_at_call 19; (with_reducible refine (shape_Size.calls kj5 _ _ t568 t609 _ ?side1 ?side2 A46.out).mono ?_); (case side1 => exact mvC_ ((Kd.R_reads' HO570.out).2.2)); (case side2 => exact (Kd.R_reads' HO570.out).2.1); rintro e w' ⟨rfl, ⟨nd, rfl⟩⟩) | (go_at_call 19; (with_reducible refine (shape_Size.calls kj5 _ _ l0 t610 _ ?side1 ?side2 A47.out).mono ?_); (case side1 => exact mvC_ ((Kd.V_reads' HO_0.out).2.2)); (case side2 => exact (Kd.V_reads' HO_0.out).2.1); rintro e w' ⟨rfl, ⟨nd, rfl⟩⟩))
      go_meet
      case rel => exact ⟨_, ((t609 == t610)), (by first | rfl | (simp; done) | (simp [*]; done)), H', ⟨by have := HJ5.out; first | omega | exact Nat.le_refl _⟩, ⟨by (with_reducible repeat (first | apply Kd.V_alloc | apply Kd.V_drewN | apply Kd.V_drew)); exact Kd.V_mono HO_0.out (fun _ hk => ⟨hk.1.1.1.1.1.1.1.1.1.1.1.1.1, ⟨hk.1.1.1.1.1.1.1.1.1.2, ⟨hk.1.1.1.1.1.1.2, ⟨hk.1.1.1.2, hk.2⟩⟩⟩⟩)⟩, ⟨by (with_reducible repeat (first | apply Kd.V_alloc | apply Kd.V_drewN | apply Kd.V_drew)); exact Kd.V_mono HO_1.out (fun _ hk => ⟨hk.1.1.1.1.1.1.1.1.1.1.1.1.1, ⟨hk.1.1.1.1.1.1.1.1.1.2, ⟨hk.1.1.1.1.1.1.2, ⟨hk.1.1.1.2, hk.2⟩⟩⟩⟩)⟩, ⟨by (with_reducible repeat (first | apply Kd.R_alloc | apply Kd.R_drewN | apply Kd.R_drew)); exact Kd.R_mono HO577.out (fun _ hk => ⟨hk.1.1.1.1.1.1.1.1, ⟨hk.1.1.1.1.2, ⟨hk.1.1.2, hk.2⟩⟩⟩)⟩, ⟨by (with_reducible repeat (first | apply Kd.R_alloc | apply Kd.R_drewN | apply Kd.R_drew)); exact Kd.R_mono HO587.out (fun _ hk => ⟨hk.1.1.1.1.1.1.1.1, ⟨hk.1.1.1.1.1.2, ⟨hk.1.1.2, hk.2⟩⟩⟩)⟩, ⟨by (with_reducible repeat (first | apply Kd.R_alloc | apply Kd.R_drewN | apply Kd.R_drew)); exact Kd.R_mono HO597.out (fun _ hk => ⟨hk.1.1.1.1.1.1.1.1, ⟨hk.1.1.1.1.1.2, ⟨hk.1.1.1.2, hk.2⟩⟩⟩)⟩, ⟨by (with_reducible repeat (first | apply Kd.R_alloc | apply Kd.R_drewN | apply Kd.R_drew)); exact Kd.R_mono HO607.out (fun _ hk => ⟨hk.1.1.1.1.1.1.1.1, ⟨hk.1.1.1.1.1.2, ⟨hk.1.1.1.2, hk.1.2⟩⟩⟩)⟩, ⟨bq0_ HB.out⟩⟩
     ·rw [if_neg c45] at H
      have c45b0 : (t571 == 0) = false := beq_eq_false_iff_ne.mpr c45
      have c45b1 : (t571 != 0) = true := bne_iff_ne.mpr c45
      (first | rw [c45b0] | (simp only [i64_w, i32_w]; rw [c45b0]) | skip)
      have H' := Aside0.mk H
      clear H
      go_wp2
      go_meet
      case rel => exact ⟨_, (true), (by first | rfl | (simp; done) | (simp [*]; done)), H', ⟨by have := HJ5.out; first | omega | exact Nat.le_refl _⟩, ⟨by (with_reducible repeat (first | apply Kd.V_alloc | apply Kd.V_drewN | apply Kd.V_drew)); exact Kd.V_mono HO_0.out (fun _ hk => ⟨hk.1.1.1.1.1.1.1.1.1.1.1.1.1, ⟨hk.1.1.1.1.1.1.1.1.1.2, ⟨hk.1.1.1.1.1.1.2, ⟨hk.1.1.1.2, hk.2⟩⟩⟩⟩)⟩, ⟨by (with_reducible repeat (first | apply Kd.V_alloc | apply Kd.V_drewN | apply Kd.V_drew)); exact Kd.V_mono HO_1.out (fun _ hk => ⟨hk.1.1.1.1.1.1.1.1.1.1.1.1.1, ⟨hk.1.1.1.1.1.1.1.1.1.2, ⟨hk.1.1.1.1.1.1.2, ⟨hk.1.1.1.2, hk.2⟩⟩⟩⟩)⟩, ⟨by (with_reducible repeat (first | apply Kd.R_alloc | apply Kd.R_drewN | apply Kd.R_drew)); exact Kd.R_mono HO577.out (fun _ hk => ⟨hk.1.1.1.1.1.1.1.1, ⟨hk.1.1.1.1.2, ⟨hk.1.1.2, hk.2⟩⟩⟩)⟩, ⟨by (with_reducible repeat (first | apply Kd.R_alloc | apply Kd.R_drewN | apply Kd.R_drew)); exact Kd.R_mono HO587.out (fun _ hk => ⟨hk.1.1.1.1.1.1.1.1, ⟨hk.1.1.1.1.1.2, ⟨hk.1.1.2, hk.2⟩⟩⟩)⟩, ⟨by (with_reducible repeat (first | apply Kd.R_alloc | apply Kd.R_drewN | apply Kd.R_drew)); exact Kd.R_mono HO597.out (fun _ hk => ⟨hk.1.1.1.1.1.1.1.1, ⟨hk.1.1.1.1.1.2, ⟨hk.1.1.1.2, hk.2⟩⟩⟩)⟩, ⟨by (with_reducible repeat (first | apply Kd.R_alloc | apply Kd.R_drewN | apply Kd.R_drew)); exact Kd.R_mono HO607.out (fun _ hk => ⟨hk.1.1.1.1.1.1.1.1, ⟨hk.1.1.1.1.1.2, ⟨hk.1.1.1.2, hk.1.2⟩⟩⟩)⟩, ⟨bq0_ HB.out⟩⟩
    case rest => as_aux_lemma =>
     clear HC15
     try clear c1
     try clear p2
     try clear c4
     try clear c6
     try clear c8
     try clear c8b0
     try clear c8b1
     try clear c9
     try clear c11
     try clear c45
     try clear c45b0
     try clear c45b1
     try clear p2
     obtain ⟨kq, x20_14, rfl, HA, HJ14, HO_0, HO_1, HO_12, HO_14, HO_16, HO_18, HB⟩ := hcut
     cases kq with
     | zero => exact absurd HA.out (by simp [fullerlaw11_InferSizes.j1])
     | succ kj14 =>
      have H := HA.out
      clear HA
      simp only [fullerlaw11_InferSizes.j1] at H
      have HC49 := Aside0.mk H
      clear H
      go_upto_region 10 with (fail)
      go_cut [21] (fun v21 wc => ∃ (kq : Nat) (x21_48 : Bool), v21 = .bool x21_48 ∧ Aside0 (fullerlaw11_InferSizes.j2 kq l0 l1 a2 t564 t585 t588 t595 t598 t605 t608 x20_14 x21_48 = some r) ∧ Aside0 (kq ≤ kj14) ∧ Aside0 (Kd.V (Kd.int .i64) 3 wc w.heap.size (fun k_ => ((P0_ k_ ∨ P1_ k_) ∨ w.heap.size ≤ k_) ∧ some k_ ≠ (v586 : Value).ownBlock ∧ some k_ ≠ (v596 : Value).ownBlock ∧ some k_ ≠ (v606 : Value).ownBlock) (.slice A0 l0.length c0) l0) ∧ Aside0 (Kd.V (Kd.int .i64) 3 wc w.heap.size (fun k_ => ((P0_ k_ ∨ P1_ k_) ∨ w.heap.size ≤ k_) ∧ some k_ ≠ (v586 : Value).ownBlock ∧ some k_ ≠ (v596 : Value).ownBlock ∧ some k_ ≠ (v606 : Value).ownBlock) (.slice A1 l1.length c1) l1) ∧ Aside0 (Kd.R (Kd.int .i64) 3 wc w.heap.size (fun k_ => (w.heap.size ≤ k_) ∧ some k_ ≠ (v596 : Value).ownBlock ∧ some k_ ≠ (v606 : Value).ownBlock) v586 t585) ∧ Aside0 (Kd.R (Kd.int .i64) 3 wc w.heap.size (fun k_ => (w.heap.size ≤ k_) ∧ some k_ ≠ (v586 : Value).ownBlock ∧ some k_ ≠ (v606 : Value).ownBlock) v596 t595) ∧ Aside0 (Kd.R (Kd.int .i64) 3 wc w.heap.size (fun k_ => (w.heap.size ≤ k_) ∧ some k_ ≠ (v586 : Value).ownBlock ∧ some k_ ≠ (v596 : Value).ownBlock) v606 t605) ∧ Aside0 (Below w.heap.size w wc))
      case first => as_aux_lemma =>
       have H := HC49.out
       clear HC49
       by_cases c50 : t578 = 0
       ·as_aux_lemma =>
        rw [if_pos c50] at H
        obtain ⟨c50b0, c50b1⟩ := eqT_ c50
        clear c50
        (first | rw [c50b0] | (simp only [i64_w, i32_w]; rw [c50b0]) | skip)
        replace H := Option.bind_eq_some_iff.mp H
        obtain ⟨t611, A510, H⟩ := H
        replace H : ((shape_Size.f kj14 l0).bind fun t612 => (if t611 = t612 then ((fullerref02_Same.f kj14 t575 l1).bind fun t613 => (fullerlaw11_InferSizes.j2 kj14 l0 l1 a2 t564 t585 t588 t595 t598 t605 t608 x20_14 t613)) else (none))) = some r := H
        have A51 := Aside0.mk A510
        clear A510
        replace H := Option.bind_eq_some_iff.mp H
        obtain ⟨t612, A520, H⟩ := H
        replace H : (if t611 = t612 then ((fullerref02_Same.f kj14 t575 l1).bind fun t613 => (fullerlaw11_InferSizes.j2 kj14 l0 l1 a2 t564 t585 t588 t595 t598 t605 t608 x20_14 t613)) else (none)) = some r := H
        have A52 := Aside0.mk A520
        clear A520
        by_cases c53 : t611 = t612
        ·as_aux_lemma =>
         rw [if_pos c53] at H
         obtain ⟨c53b0, c53b1⟩ := eqT_ c53
         clear c53
         replace H := Option.bind_eq_some_iff.mp H
         obtain ⟨t613, A540, H⟩ := H
         replace H : (fullerlaw11_InferSizes.j2 kj14 l0 l1 a2 t564 t585 t588 t595 t598 t605 t608 x20_14 t613) = some r := H
         have A54 := Aside0.mk A540
         clear A540
         have H' := Aside0.mk H
         clear H
         obtain ⟨Ao55, co55, eo55⟩ := Kd.R_slice HO_12.out
         subst eo55
         go_wp2_with (first | (go_at_call 19; (with_reducible refine (shape_Size.calls kj14 _ _ t575 t611 _ ?side1 ?side2 A51.out).mono ?_); (case side1 => exact mvC_ ((Kd.R_reads' HO_12.out).2.2)); (case side2 => exact (Kd.R_reads' HO_12.out).2.1); rintro e w' ⟨rfl, ⟨nd, rfl⟩⟩) | (go_at_call 19; (with_reducible refine (shape_Size.calls kj14 _ _ l0 t612 _ ?side1 ?side2 A52.out).mono ?_); (case side1 => exact mvC_ ((Kd.V_reads' HO_0.out).2.2)); (case side2 => exact (Kd.V_reads' HO_0.out).2.1); rintro e w' ⟨rfl, ⟨nd, rfl⟩⟩) | (go_at_call 15; (with_reducible refine (fullerref02_Same.calls kj14 _ _ t575 _ _ l1 t613 _ ?side1 ?side2 ?side3 ?side4 A54.out).mono ?_); (case side1 => exact mvC_ ((Kd.R_reads' HO_12.out).2.2)); (case side2 => exact (Kd.R_reads' HO_12.out).2.1); (case side3 => exact mvC_ ((Kd.V_reads' HO_1.out).2.2)); (case side4 => exact (Kd.V_reads' HO_1.out).2.1); rintro e w' ⟨rfl, ⟨nd, rfl⟩⟩))
         go_meet
         case rel => exact ⟨_, (t613), (by first | rfl | (simp; done) | (simp [*]; done)), H', ⟨by have := HJ5.out; have := HJ14.out; first | omega | exact Nat.le_refl _⟩, ⟨by (with_reducible repeat (first | apply Kd.V_alloc | apply Kd.V_drewN | apply Kd.V_drew)); exact Kd.V_mono HO_0.out (fun _ hk => ⟨hk.1, ⟨hk.2.2.1, ⟨hk.2.2.2.1, hk.2.2.2.2⟩⟩⟩)⟩, ⟨by (with_reducible repeat (first | apply Kd.V_alloc | apply Kd.V_drewN | apply Kd.V_drew)); exact Kd.V_mono HO_1.out (fun _ hk => ⟨hk.1, ⟨hk.2.2.1, ⟨hk.2.2.2.1, hk.2.2.2.2⟩⟩⟩)⟩, ⟨by (with_reducible repeat (first | apply Kd.R_alloc | apply Kd.R_drewN | apply Kd.R_drew)); exact Kd.R_mono HO_14.out (fun _ hk => ⟨hk.1, ⟨hk.2.2.1, hk.2.2.2⟩⟩)⟩, ⟨by (with_reducible repeat (first | apply Kd.R_alloc | apply Kd.R_drewN | apply Kd.R_drew)); exact Kd.R_mono HO_16.out (fun _ hk => ⟨hk.1, ⟨hk.2.2.1, hk.2.2.2⟩⟩)⟩, ⟨by (with_reducible repeat (first | apply Kd.R_alloc | apply Kd.R_drewN | apply Kd.R_drew)); exact Kd.R_mono HO_18.out (fun _ hk => ⟨hk.1, ⟨hk.2.2.1, hk.2.2.2⟩⟩)⟩, ⟨bq0_ HB.out⟩⟩
        ·rw [if_neg c53] at H
         exact absurd H (by simp)
       ·rw [if_neg c50] at H
        have c50b0 : (t578 == 0) = false := beq_eq_false_iff_ne.mpr c50
        have c50b1 : (t578 != 0) = true := bne_iff_ne.mpr c50
        (first | rw [c50b0] | (simp only [i64_w, i32_w]; rw [c50b0]) | skip)
        have H' := Aside0.mk H
        clear H
        go_wp2
        go_meet
        case rel => exact ⟨_, (true), (by first | rfl | (simp; done) | (simp [*]; done)), H', ⟨by have := HJ5.out; have := HJ14.out; first | omega | exact Nat.le_refl _⟩, ⟨by (with_reducible repeat (first | apply Kd.V_alloc | apply Kd.V_drewN | apply Kd.V_drew)); exact Kd.V_mono HO_0.out (fun _ hk => ⟨hk.1, ⟨hk.2.2.1, ⟨hk.2.2.2.1, hk.2.2.2.2⟩⟩⟩)⟩, ⟨by (with_reducible repeat (first | apply Kd.V_alloc | apply Kd.V_drewN | apply Kd.V_drew)); exact Kd.V_mono HO_1.out (fun _ hk => ⟨hk.1, ⟨hk.2.2.1, ⟨hk.2.2.2.1, hk.2.2.2.2⟩⟩⟩)⟩, ⟨by (with_reducible repeat (first | apply Kd.R_alloc | apply Kd.R_drewN | apply Kd.R_drew)); exact Kd.R_mono HO_14.out (fun _ hk => ⟨hk.1, ⟨hk.2.2.1, hk.2.2.2⟩⟩)⟩, ⟨by (with_reducible repeat (first | apply Kd.R_alloc | apply Kd.R_drewN | apply Kd.R_drew)); exact Kd.R_mono HO_16.out (fun _ hk => ⟨hk.1, ⟨hk.2.2.1, hk.2.2.2⟩⟩)⟩, ⟨by (with_reducible repeat (first | apply Kd.R_alloc | apply Kd.R_drewN | apply Kd.R_drew)); exact Kd.R_mono HO_18.out (fun _ hk => ⟨hk.1, ⟨hk.2.2.1, hk.2.2.2⟩⟩)⟩, ⟨bq0_ HB.out⟩⟩
      case rest => as_aux_lemma =>
       clear HC49
       try clear c1
       try clear p2
       try clear c4
       try clear c5
       try clear c6
       try clear c8
       try clear c8b0
       try clear c8b1
       try clear c9
       try clear c11
       try clear c45
       try clear c45b0
       try clear c45b1
       try clear c50
       try clear c50b0
       try clear c50b1
       try clear c53
       try clear c53b0
       try clear c53b1
       try clear p2
       obtain ⟨kq, x21_48, rfl, HA, HJ48, HO_0, HO_1, HO_14, HO_16, HO_18, HB⟩ := hcut
       cases kq with
       | zero => exact absurd HA.out (by simp [fullerlaw11_InferSizes.j2])
       | succ kj48 =>
        have H := HA.out
        clear HA
        simp only [fullerlaw11_InferSizes.j2] at H
        by_cases c56 : t588 = 0
        ·as_aux_lemma =>
         rw [if_pos c56] at H
         obtain ⟨c56b0, c56b1⟩ := eqT_ c56
         clear c56
         replace H := Option.bind_eq_some_iff.mp H
         obtain ⟨t614, A570, H⟩ := H
         replace H : ((shape_Size.f kj48 l0).bind fun t615 => ((shape_Size.f kj48 l1).bind fun t616 => ((shape_Check.f kj48 l0).bind fun t617 => (if t617 = true then (if a2 ≥ 0 then (if ((t598 == 0) == (decide (a2 < (l0.length : Int)))) = true then (if t598 = 0 then (if t564 = true then (if x20_14 = true then (if x21_48 = true then (if t614 = (wrap64 (t615 + t616)) then (if (t595.length : Int) = (wrap64 ((l0.length : Int) - 1)) then (if t608 = 0 then ((shape_Size.f kj48 t605).bind fun t618 => ((shape_Size.f kj48 l0).bind fun t619 => (if t618 ≤ t619 then (some ((t605.length : Int) == (l0.length : Int))) else (none)))) else (some true)) else (none)) else (none)) else (none)) else (none)) else (none)) else (if t564 = true then (if x20_14 = true then (if x21_48 = true then (if t614 = (wrap64 (t615 + t616)) then (if t608 = 0 then ((shape_Size.f kj48 t605).bind fun t620 => ((shape_Size.f kj48 l0).bind fun t621 => (if t620 ≤ t621 then (some ((t605.length : Int) == (l0.length : Int))) else (none)))) else (some true)) else (none)) else (none)) else (none)) else (none))) else (none)) else (if ((t598 == 0) == false) = true then (if t598 = 0 then (if t564 = true then (if x20_14 = true then (if x21_48 = true then (if t614 = (wrap64 (t615 + t616)) then (if (t595.length : Int) = (wrap64 ((l0.length : Int) - 1)) then (if t608 = 0 then ((shape_Size.f kj48 t605).bind fun t622 => ((shape_Size.f kj48 l0).bind fun t623 => (if t622 ≤ t623 then (some ((t605.length : Int) == (l0.length : Int))) else (none)))) else (some true)) else (none)) else (none)) else (none)) else (none)) else (none)) else (if t564 = true then (if x20_14 = true then (if x21_48 = true then (if t614 = (wrap64 (t615 + t616)) then (if t608 = 0 then ((shape_Size.f kj48 t605).bind fun t624 => ((shape_Size.f kj48 l0).bind fun t625 => (if t624 ≤ t625 then (some ((t605.length : Int) == (l0.length : Int))) else (none)))) else (some true)) else (none)) else (none)) else (none)) else (none))) else (none))) else (if ((t598 == 0) == false) = true then (if t598 = 0 then (if t564 = true then (if x20_14 = true then (if x21_48 = true then (if t614 = (wrap64 (t615 + t616)) then (if (t595.length : Int) = (wrap64 ((l0.length : Int) - 1)) then (if t608 = 0 then ((shape_Size.f kj48 t605).bind fun t626 => ((shape_Size.f kj48 l0).bind fun t627 => (if t626 ≤ t627 then (some ((t605.length : Int) == (l0.length : Int))) else (none)))) else (some true)) else (none)) else (none)) else (none)) else (none)) else (none)) else (if t564 = true then (if x20_14 = true then (if x21_48 = true then (if t614 = (wrap64 (t615 + t616)) then (if t608 = 0 then ((shape_Size.f kj48 t605).bind fun t628 => ((shape_Size.f kj48 l0).bind fun t629 => (if t628 ≤ t629 then (some ((t605.length : Int) == (l0.length : Int))) else (none)))) else (some true)) else (none)) else (none)) else (none)) else (none))) else (none)))))) = some r := H
         have A57 := Aside0.mk A570
         clear A570
         replace H := Option.bind_eq_some_iff.mp H
         obtain ⟨t615, A580, H⟩ := H
         replace H : ((shape_Size.f kj48 l1).bind fun t616 => ((shape_Check.f kj48 l0).bind fun t617 => (if t617 = true then (if a2 ≥ 0 then (if ((t598 == 0) == (decide (a2 < (l0.length : Int)))) = true then (if t598 = 0 then (if t564 = true then (if x20_14 = true then (if x21_48 = true then (if t614 = (wrap64 (t615 + t616)) then (if (t595.length : Int) = (wrap64 ((l0.length : Int) - 1)) then (if t608 = 0 then ((shape_Size.f kj48 t605).bind fun t618 => ((shape_Size.f kj48 l0).bind fun t619 => (if t618 ≤ t619 then (some ((t605.length : Int) == (l0.length : Int))) else (none)))) else (some true)) else (none)) else (none)) else (none)) else (none)) else (none)) else (if t564 = true then (if x20_14 = true then (if x21_48 = true then (if t614 = (wrap64 (t615 + t616)) then (if t608 = 0 then ((shape_Size.f kj48 t605).bind fun t620 => ((shape_Size.f kj48 l0).bind fun t621 => (if t620 ≤ t621 then (some ((t605.length : Int) == (l0.length : Int))) else (none)))) else (some true)) else (none)) else (none)) else (none)) else (none))) else (none)) else (if ((t598 == 0) == false) = true then (if t598 = 0 then (if t564 = true then (if x20_14 = true then (if x21_48 = true then (if t614 = (wrap64 (t615 + t616)) then (if (t595.length : Int) = (wrap64 ((l0.length : Int) - 1)) then (if t608 = 0 then ((shape_Size.f kj48 t605).bind fun t622 => ((shape_Size.f kj48 l0).bind fun t623 => (if t622 ≤ t623 then (some ((t605.length : Int) == (l0.length : Int))) else (none)))) else (some true)) else (none)) else (none)) else (none)) else (none)) else (none)) else (if t564 = true then (if x20_14 = true then (if x21_48 = true then (if t614 = (wrap64 (t615 + t616)) then (if t608 = 0 then ((shape_Size.f kj48 t605).bind fun t624 => ((shape_Size.f kj48 l0).bind fun t625 => (if t624 ≤ t625 then (some ((t605.length : Int) == (l0.length : Int))) else (none)))) else (some true)) else (none)) else (none)) else (none)) else (none))) else (none))) else (if ((t598 == 0) == false) = true then (if t598 = 0 then (if t564 = true then (if x20_14 = true then (if x21_48 = true then (if t614 = (wrap64 (t615 + t616)) then (if (t595.length : Int) = (wrap64 ((l0.length : Int) - 1)) then (if t608 = 0 then ((shape_Size.f kj48 t605).bind fun t626 => ((shape_Size.f kj48 l0).bind fun t627 => (if t626 ≤ t627 then (some ((t605.length : Int) == (l0.length : Int))) else (none)))) else (some true)) else (none)) else (none)) else (none)) else (none)) else (none)) else (if t564 = true then (if x20_14 = true then (if x21_48 = true then (if t614 = (wrap64 (t615 + t616)) then (if t608 = 0 then ((shape_Size.f kj48 t605).bind fun t628 => ((shape_Size.f kj48 l0).bind fun t629 => (if t628 ≤ t629 then (some ((t605.length : Int) == (l0.length : Int))) else (none)))) else (some true)) else (none)) else (none)) else (none)) else (none))) else (none))))) = some r := H
         have A58 := Aside0.mk A580
         clear A580
         replace H := Option.bind_eq_some_iff.mp H
         obtain ⟨t616, A590, H⟩ := H
         replace H : ((shape_Check.f kj48 l0).bind fun t617 => (if t617 = true then (if a2 ≥ 0 then (if ((t598 == 0) == (decide (a2 < (l0.length : Int)))) = true then (if t598 = 0 then (if t564 = true then (if x20_14 = true then (if x21_48 = true then (if t614 = (wrap64 (t615 + t616)) then (if (t595.length : Int) = (wrap64 ((l0.length : Int) - 1)) then (if t608 = 0 then ((shape_Size.f kj48 t605).bind fun t618 => ((shape_Size.f kj48 l0).bind fun t619 => (if t618 ≤ t619 then (some ((t605.length : Int) == (l0.length : Int))) else (none)))) else (some true)) else (none)) else (none)) else (none)) else (none)) else (none)) else (if t564 = true then (if x20_14 = true then (if x21_48 = true then (if t614 = (wrap64 (t615 + t616)) then (if t608 = 0 then ((shape_Size.f kj48 t605).bind fun t620 => ((shape_Size.f kj48 l0).bind fun t621 => (if t620 ≤ t621 then (some ((t605.length : Int) == (l0.length : Int))) else (none)))) else (some true)) else (none)) else (none)) else (none)) else (none))) else (none)) else (if ((t598 == 0) == false) = true then (if t598 = 0 then (if t564 = true then (if x20_14 = true then (if x21_48 = true then (if t614 = (wrap64 (t615 + t616)) then (if (t595.length : Int) = (wrap64 ((l0.length : Int) - 1)) then (if t608 = 0 then ((shape_Size.f kj48 t605).bind fun t622 => ((shape_Size.f kj48 l0).bind fun t623 => (if t622 ≤ t623 then (some ((t605.length : Int) == (l0.length : Int))) else (none)))) else (some true)) else (none)) else (none)) else (none)) else (none)) else (none)) else (if t564 = true then (if x20_14 = true then (if x21_48 = true then (if t614 = (wrap64 (t615 + t616)) then (if t608 = 0 then ((shape_Size.f kj48 t605).bind fun t624 => ((shape_Size.f kj48 l0).bind fun t625 => (if t624 ≤ t625 then (some ((t605.length : Int) == (l0.length : Int))) else (none)))) else (some true)) else (none)) else (none)) else (none)) else (none))) else (none))) else (if ((t598 == 0) == false) = true then (if t598 = 0 then (if t564 = true then (if x20_14 = true then (if x21_48 = true then (if t614 = (wrap64 (t615 + t616)) then (if (t595.length : Int) = (wrap64 ((l0.length : Int) - 1)) then (if t608 = 0 then ((shape_Size.f kj48 t605).bind fun t626 => ((shape_Size.f kj48 l0).bind fun t627 => (if t626 ≤ t627 then (some ((t605.length : Int) == (l0.length : Int))) else (none)))) else (some true)) else (none)) else (none)) else (none)) else (none)) else (none)) else (if t564 = true then (if x20_14 = true then (if x21_48 = true then (if t614 = (wrap64 (t615 + t616)) then (if t608 = 0 then ((shape_Size.f kj48 t605).bind fun t628 => ((shape_Size.f kj48 l0).bind fun t629 => (if t628 ≤ t629 then (some ((t605.length : Int) == (l0.length : Int))) else (none)))) else (some true)) else (none)) else (none)) else (none)) else (none))) else (none)))) = some r := H
         have A59 := Aside0.mk A590
         clear A590
         replace H := Option.bind_eq_some_iff.mp H
         obtain ⟨t617, A600, H⟩ := H
         replace H : (if t617 = true then (if a2 ≥ 0 then (if ((t598 == 0) == (decide (a2 < (l0.length : Int)))) = true then (if t598 = 0 then (if t564 = true then (if x20_14 = true then (if x21_48 = true then (if t614 = (wrap64 (t615 + t616)) then (if (t595.length : Int) = (wrap64 ((l0.length : Int) - 1)) then (if t608 = 0 then ((shape_Size.f kj48 t605).bind fun t618 => ((shape_Size.f kj48 l0).bind fun t619 => (if t618 ≤ t619 then (some ((t605.length : Int) == (l0.length : Int))) else (none)))) else (some true)) else (none)) else (none)) else (none)) else (none)) else (none)) else (if t564 = true then (if x20_14 = true then (if x21_48 = true then (if t614 = (wrap64 (t615 + t616)) then (if t608 = 0 then ((shape_Size.f kj48 t605).bind fun t620 => ((shape_Size.f kj48 l0).bind fun t621 => (if t620 ≤ t621 then (some ((t605.length : Int) == (l0.length : Int))) else (none)))) else (some true)) else (none)) else (none)) else (none)) else (none))) else (none)) else (if ((t598 == 0) == false) = true then (if t598 = 0 then (if t564 = true then (if x20_14 = true then (if x21_48 = true then (if t614 = (wrap64 (t615 + t616)) then (if (t595.length : Int) = (wrap64 ((l0.length : Int) - 1)) then (if t608 = 0 then ((shape_Size.f kj48 t605).bind fun t622 => ((shape_Size.f kj48 l0).bind fun t623 => (if t622 ≤ t623 then (some ((t605.length : Int) == (l0.length : Int))) else (none)))) else (some true)) else (none)) else (none)) else (none)) else (none)) else (none)) else (if t564 = true then (if x20_14 = true then (if x21_48 = true then (if t614 = (wrap64 (t615 + t616)) then (if t608 = 0 then ((shape_Size.f kj48 t605).bind fun t624 => ((shape_Size.f kj48 l0).bind fun t625 => (if t624 ≤ t625 then (some ((t605.length : Int) == (l0.length : Int))) else (none)))) else (some true)) else (none)) else (none)) else (none)) else (none))) else (none))) else (if ((t598 == 0) == false) = true then (if t598 = 0 then (if t564 = true then (if x20_14 = true then (if x21_48 = true then (if t614 = (wrap64 (t615 + t616)) then (if (t595.length : Int) = (wrap64 ((l0.length : Int) - 1)) then (if t608 = 0 then ((shape_Size.f kj48 t605).bind fun t626 => ((shape_Size.f kj48 l0).bind fun t627 => (if t626 ≤ t627 then (some ((t605.length : Int) == (l0.length : Int))) else (none)))) else (some true)) else (none)) else (none)) else (none)) else (none)) else (none)) else (if t564 = true then (if x20_14 = true then (if x21_48 = true then (if t614 = (wrap64 (t615 + t616)) then (if t608 = 0 then ((shape_Size.f kj48 t605).bind fun t628 => ((shape_Size.f kj48 l0).bind fun t629 => (if t628 ≤ t629 then (some ((t605.length : Int) == (l0.length : Int))) else (none)))) else (some true)) else (none)) else (none)) else (none)) else (none))) else (none))) = some r := H
         have A60 := Aside0.mk A600
         clear A600
         by_cases c61 : t617 = true
         ·as_aux_lemma =>
          subst c61
          have H1 : (if a2 ≥ 0 then (if ((t598 == 0) == (decide (a2 < (l0.length : Int)))) = true then (if t598 = 0 then (if t564 = true then (if x20_14 = true then (if x21_48 = true then (if t614 = (wrap64 (t615 + t616)) then (if (t595.length : Int) = (wrap64 ((l0.length : Int) - 1)) then (if t608 = 0 then ((shape_Size.f kj48 t605).bind fun t618 => ((shape_Size.f kj48 l0).bind fun t619 => (if t618 ≤ t619 then (some ((t605.length : Int) == (l0.length : Int))) else (none)))) else (some true)) else (none)) else (none)) else (none)) else (none)) else (none)) else (if t564 = true then (if x20_14 = true then (if x21_48 = true then (if t614 = (wrap64 (t615 + t616)) then (if t608 = 0 then ((shape_Size.f kj48 t605).bind fun t620 => ((shape_Size.f kj48 l0).bind fun t621 => (if t620 ≤ t621 then (some ((t605.length : Int) == (l0.length : Int))) else (none)))) else (some true)) else (none)) else (none)) else (none)) else (none))) else (none)) else (if ((t598 == 0) == false) = true then (if t598 = 0 then (if t564 = true then (if x20_14 = true then (if x21_48 = true then (if t614 = (wrap64 (t615 + t616)) then (if (t595.length : Int) = (wrap64 ((l0.length : Int) - 1)) then (if t608 = 0 then ((shape_Size.f kj48 t605).bind fun t622 => ((shape_Size.f kj48 l0).bind fun t623 => (if t622 ≤ t623 then (some ((t605.length : Int) == (l0.length : Int))) else (none)))) else (some true)) else (none)) else (none)) else (none)) else (none)) else (none)) else (if t564 = true then (if x20_14 = true then (if x21_48 = true then (if t614 = (wrap64 (t615 + t616)) then (if t608 = 0 then ((shape_Size.f kj48 t605).bind fun t624 => ((shape_Size.f kj48 l0).bind fun t625 => (if t624 ≤ t625 then (some ((t605.length : Int) == (l0.length : Int))) else (none)))) else (some true)) else (none)) else (none)) else (none)) else (none))) else (none))) = some r := by rw [if_pos rfl] at H; exact H
          clear H
          have H := H1
          clear H1
          by_cases c62 : a2 ≥ 0
          ·as_aux_lemma =>
           rw [if_pos c62] at H
           have c62b0 : decide (0 ≤ a2) = true := decide_eq_true c62
           clear c62
           by_cases c63 : ((t598 == 0) == (decide (a2 < (l0.length : Int)))) = true
           ·as_aux_lemma =>
            rw [if_pos c63] at H
            have c63b0 : ((t598 == 0) == (decide (a2 < (l0.length : Int)))) = true := c63
            (try (have c63b1 : decide ((t598 == 0) = (decide (a2 < (l0.length : Int)))) = true := by simpa using c63))
            (try (have c63b2 : ((t598 == 0) == (decide (a2 < (l0.length : Int)))) = true := by simpa using c63))
            clear c63
            by_cases c64 : t598 = 0
            ·as_aux_lemma =>
             rw [if_pos c64] at H
             obtain ⟨c64b0, c64b1⟩ := eqT_ c64
             clear c64
             by_cases c65 : t564 = true
             ·as_aux_lemma =>
              subst c65
              have H1 : (if x20_14 = true then (if x21_48 = true then (if t614 = (wrap64 (t615 + t616)) then (if (t595.length : Int) = (wrap64 ((l0.length : Int) - 1)) then (if t608 = 0 then ((shape_Size.f kj48 t605).bind fun t618 => ((shape_Size.f kj48 l0).bind fun t619 => (if t618 ≤ t619 then (some ((t605.length : Int) == (l0.length : Int))) else (none)))) else (some true)) else (none)) else (none)) else (none)) else (none)) = some r := by rw [if_pos rfl] at H; exact H
              clear H
              have H := H1
              clear H1
              by_cases c66 : x20_14 = true
              ·as_aux_lemma =>
               subst c66
               have H1 : (if x21_48 = true then (if t614 = (wrap64 (t615 + t616)) then (if (t595.length : Int) = (wrap64 ((l0.length : Int) - 1)) then (if t608 = 0 then ((shape_Size.f kj48 t605).bind fun t618 => ((shape_Size.f kj48 l0).bind fun t619 => (if t618 ≤ t619 then (some ((t605.length : Int) == (l0.length : Int))) else (none)))) else (some true)) else (none)) else (none)) else (none)) = some r := by rw [if_pos rfl] at H; exact H
               clear H
               have H := H1
               clear H1
               by_cases c67 : x21_48 = true
               ·as_aux_lemma =>
                subst c67
                have H1 : (if t614 = (wrap64 (t615 + t616)) then (if (t595.length : Int) = (wrap64 ((l0.length : Int) - 1)) then (if t608 = 0 then ((shape_Size.f kj48 t605).bind fun t618 => ((shape_Size.f kj48 l0).bind fun t619 => (if t618 ≤ t619 then (some ((t605.length : Int) == (l0.length : Int))) else (none)))) else (some true)) else (none)) else (none)) = some r := by rw [if_pos rfl] at H; exact H
                clear H
                have H := H1
                clear H1
                by_cases c68 : t614 = (wrap64 (t615 + t616))
                ·as_aux_lemma =>
                 rw [if_pos c68] at H
                 obtain ⟨c68b0, c68b1⟩ := eqT_ c68
                 clear c68
                 by_cases c69 : (t595.length : Int) = (wrap64 ((l0.length : Int) - 1))
                 ·as_aux_lemma =>
                  rw [if_pos c69] at H
                  obtain ⟨c69b0, c69b1⟩ := eqT_ c69
                  clear c69
                  by_cases c70 : t608 = 0
                  ·as_aux_lemma =>
                   rw [if_pos c70] at H
                   obtain ⟨c70b0, c70b1⟩ := eqT_ c70
                   clear c70
                   replace H := Option.bind_eq_some_iff.mp H
                   obtain ⟨t618, A710, H⟩ := H
                   replace H : ((shape_Size.f kj48 l0).bind fun t619 => (if t618 ≤ t619 then (some ((t605.length : Int) == (l0.length : Int))) else (none))) = some r := H
                   have A71 := Aside0.mk A710
                   clear A710
                   replace H := Option.bind_eq_some_iff.mp H
                   obtain ⟨t619, A720, H⟩ := H
                   replace H : (if t618 ≤ t619 then (some ((t605.length : Int) == (l0.length : Int))) else (none)) = some r := H
                   have A72 := Aside0.mk A720
                   clear A720
                   obtain rfl : t615 = t619 := Option.some.inj (A58.out.symm.trans A72.out)
                   by_cases c73 : t618 ≤ t615
                   ·as_aux_lemma =>
                    rw [if_pos c73] at H
                    have c73b0 : decide (t618 ≤ t615) = true := decide_eq_true c73
                    clear c73
                    obtain rfl := Option.some.inj H
                    obtain ⟨Ao74, co74, eo74⟩ := Kd.R_slice HO_14.out
                    subst eo74
                    go_wp2_with (first | (go_at_call 19; (with_reducible refine (shape_Size.calls kj48 _ _ t585 t614 _ ?side1 ?side2 A57.out).mono ?_); (case side1 => exact mvC_ ((Kd.R_reads' HO_14.out).2.2)); (case side2 => exact (Kd.R_reads' HO_14.out).2.1); rintro e w' ⟨rfl, ⟨nd, rfl⟩⟩) | (go_at_call 19; (with_reducible refine (shape_Size.calls kj48 _ _ l0 t615 _ ?side1 ?side2 A58.out).mono ?_); (case side1 => exact mvC_ ((Kd.V_reads' HO_0.out).2.2)); (case side2 => exact (Kd.V_reads' HO_0.out).2.1); rintro e w' ⟨rfl, ⟨nd, rfl⟩⟩) | (go_at_call 19; (with_reducible refine (shape_Size.calls kj48 _ _ l1 t616 _ ?side1 ?side2 A59.out).mono ?_); (case side1 => exact mvC_ ((Kd.V_reads' HO_1.out).2.2)); (case side2 => exact (Kd.V_reads' HO_1.out).2.1); rintro e w' ⟨rfl, ⟨nd, rfl⟩⟩) | ((with_reducible refine gate_callee (f := 18) rfl ?_); refine gL_ (some 116) Try.func18 #[.slice A0 l0.length c0] ?_; (with_reducible refine (shape_Check.calls kj48 _ _ l0 true _ ?side1 ?side2 A60.out).mono ?_); (case side1 => exact mvC_ ((Kd.V_reads' HO_0.out).2.2)); (case side2 => exact (Kd.V_reads' HO_0.out).2.1); rintro e w' ⟨rfl, ⟨nd, rfl⟩⟩; refine ⟨_, rfl, ?_⟩; obtain ⟨Ao75, co75, eo75⟩ := Kd.R_slice HO_16.out; subst eo75; obtain ⟨Ao76, co76, eo76⟩ := Kd.R_slice HO_18.out; subst eo76) | (go_at_call 19; (with_reducible refine (shape_Size.calls kj48 _ _ t605 t618 _ ?side1 ?side2 A71.out).mono ?_); (case side1 => exact mvC_ ((Kd.R_reads' HO_18.out).2.2)); (case side2 => exact (Kd.R_reads' HO_18.out).2.1); rintro e w' ⟨rfl, ⟨nd, rfl⟩⟩) | (go_at_call 19; (with_reducible refine (shape_Size.calls kj48 _ _ l0 t615 _ ?side1 ?side2 A72.out).mono ?_); (case side1 => exact mvC_ ((Kd.V_reads' HO_0.out).2.2)); (case side2 => exact (Kd.V_reads' HO_0.out).2.1); rintro e w' ⟨rfl, ⟨nd, rfl⟩⟩))
                    all_goals
                     go_ret
                     exact ⟨by first | rfl | (simp <;> rfl) | (simp [*] <;> rfl) | (simp_all <;> omega), bq0_ HB.out⟩
                   ·rw [if_neg c73] at H
                    exact absurd H (by simp)
                  ·rw [if_neg c70] at H
                   have c70b0 : (t608 == 0) = false := beq_eq_false_iff_ne.mpr c70
                   have c70b1 : (t608 != 0) = true := bne_iff_ne.mpr c70
                   obtain rfl := Option.some.inj H
                   obtain ⟨Ao77, co77, eo77⟩ := Kd.R_slice HO_14.out
                   subst eo77
                   go_wp2_with (first | (go_at_call 19; (with_reducible refine (shape_Size.calls kj48 _ _ t585 t614 _ ?side1 ?side2 A57.out).mono ?_); (case side1 => exact mvC_ ((Kd.R_reads' HO_14.out).2.2)); (case side2 => exact (Kd.R_reads' HO_14.out).2.1); rintro e w' ⟨rfl, ⟨nd, rfl⟩⟩) | (go_at_call 19; (with_reducible refine (shape_Size.calls kj48 _ _ l0 t615 _ ?side1 ?side2 A58.out).mono ?_); (case side1 => exact mvC_ ((Kd.V_reads' HO_0.out).2.2)); (case side2 => exact (Kd.V_reads' HO_0.out).2.1); rintro e w' ⟨rfl, ⟨nd, rfl⟩⟩) | (go_at_call 19; (with_reducible refine (shape_Size.calls kj48 _ _ l1 t616 _ ?side1 ?side2 A59.out).mono ?_); (case side1 => exact mvC_ ((Kd.V_reads' HO_1.out).2.2)); (case side2 => exact (Kd.V_reads' HO_1.out).2.1); rintro e w' ⟨rfl, ⟨nd, rfl⟩⟩) | ((with_reducible refine gate_callee (f := 18) rfl ?_); refine gL_ (some 116) Try.func18 #[.slice A0 l0.length c0] ?_; (with_reducible refine (shape_Check.calls kj48 _ _ l0 true _ ?side1 ?side2 A60.out).mono ?_); (case side1 => exact mvC_ ((Kd.V_reads' HO_0.out).2.2)); (case side2 => exact (Kd.V_reads' HO_0.out).2.1); rintro e w' ⟨rfl, ⟨nd, rfl⟩⟩; refine ⟨_, rfl, ?_⟩; obtain ⟨Ao78, co78, eo78⟩ := Kd.R_slice HO_16.out; subst eo78))
                   all_goals
                    go_ret
                    exact ⟨by first | rfl | (simp <;> rfl) | (simp [*] <;> rfl) | (simp_all <;> omega), bq0_ HB.out⟩
                 ·rw [if_neg c69] at H
                  exact absurd H (by simp)
                ·rw [if_neg c68] at H
                 exact absurd H (by simp)
               ·replace c67 := Bool.eq_false_iff.mpr c67
                subst c67
                have H1 : (none) = some r := by rw [if_neg (show ¬ (false = true) by decide)] at H; exact H
                clear H
                have H := H1
                clear H1
                exact absurd H (by simp)
              ·replace c66 := Bool.eq_false_iff.mpr c66
               subst c66
               have H1 : (none) = some r := by rw [if_neg (show ¬ (false = true) by decide)] at H; exact H
               clear H
               have H := H1
               clear H1
               exact absurd H (by simp)
             ·replace c65 := Bool.eq_false_iff.mpr c65
              subst c65
              have H1 : (none) = some r := by rw [if_neg (show ¬ (false = true) by decide)] at H; exact H
              clear H
              have H := H1
              clear H1
              exact absurd H (by simp)
            ·as_aux_lemma =>
             rw [if_neg c64] at H
             have c64b0 : (t598 == 0) = false := beq_eq_false_iff_ne.mpr c64
             have c64b1 : (t598 != 0) = true := bne_iff_ne.mpr c64
             by_cases c79 : t564 = true
             ·as_aux_lemma =>
              subst c79
              have H1 : (if x20_14 = true then (if x21_48 = true then (if t614 = (wrap64 (t615 + t616)) then (if t608 = 0 then ((shape_Size.f kj48 t605).bind fun t620 => ((shape_Size.f kj48 l0).bind fun t621 => (if t620 ≤ t621 then (some ((t605.length : Int) == (l0.length : Int))) else (none)))) else (some true)) else (none)) else (none)) else (none)) = some r := by rw [if_pos rfl] at H; exact H
              clear H
              have H := H1
              clear H1
              by_cases c80 : x20_14 = true
              ·as_aux_lemma =>
               subst c80
               have H1 : (if x21_48 = true then (if t614 = (wrap64 (t615 + t616)) then (if t608 = 0 then ((shape_Size.f kj48 t605).bind fun t620 => ((shape_Size.f kj48 l0).bind fun t621 => (if t620 ≤ t621 then (some ((t605.length : Int) == (l0.length : Int))) else (none)))) else (some true)) else (none)) else (none)) = some r := by rw [if_pos rfl] at H; exact H
               clear H
               have H := H1
               clear H1
               by_cases c81 : x21_48 = true
               ·as_aux_lemma =>
                subst c81
                have H1 : (if t614 = (wrap64 (t615 + t616)) then (if t608 = 0 then ((shape_Size.f kj48 t605).bind fun t620 => ((shape_Size.f kj48 l0).bind fun t621 => (if t620 ≤ t621 then (some ((t605.length : Int) == (l0.length : Int))) else (none)))) else (some true)) else (none)) = some r := by rw [if_pos rfl] at H; exact H
                clear H
                have H := H1
                clear H1
                by_cases c82 : t614 = (wrap64 (t615 + t616))
                ·as_aux_lemma =>
                 rw [if_pos c82] at H
                 obtain ⟨c82b0, c82b1⟩ := eqT_ c82
                 clear c82
                 by_cases c83 : t608 = 0
                 ·as_aux_lemma =>
                  rw [if_pos c83] at H
                  obtain ⟨c83b0, c83b1⟩ := eqT_ c83
                  clear c83
                  replace H := Option.bind_eq_some_iff.mp H
                  obtain ⟨t620, A840, H⟩ := H
                  replace H : ((shape_Size.f kj48 l0).bind fun t621 => (if t620 ≤ t621 then (some ((t605.length : Int) == (l0.length : Int))) else (none))) = some r := H
                  have A84 := Aside0.mk A840
                  clear A840
                  replace H := Option.bind_eq_some_iff.mp H
                  obtain ⟨t621, A850, H⟩ := H
                  replace H : (if t620 ≤ t621 then (some ((t605.length : Int) == (l0.length : Int))) else (none)) = some r := H
                  have A85 := Aside0.mk A850
                  clear A850
                  obtain rfl : t615 = t621 := Option.some.inj (A58.out.symm.trans A85.out)
                  by_cases c86 : t620 ≤ t615
                  ·as_aux_lemma =>
                   rw [if_pos c86] at H
                   have c86b0 : decide (t620 ≤ t615) = true := decide_eq_true c86
                   clear c86
                   obtain rfl := Option.some.inj H
                   obtain ⟨Ao87, co87, eo87⟩ := Kd.R_slice HO_14.out
                   subst eo87
                   go_wp2_with (first | (go_at_call 19; (with_reducible refine (shape_Size.calls kj48 _ _ t585 t614 _ ?side1 ?side2 A57.out).mono ?_); (case side1 => exact mvC_ ((Kd.R_reads' HO_14.out).2.2)); (case side2 => exact (Kd.R_reads' HO_14.out).2.1); rintro e w' ⟨rfl, ⟨nd, rfl⟩⟩) | (go_at_call 19; (with_reducible refine (shape_Size.calls kj48 _ _ l0 t615 _ ?side1 ?side2 A58.out).mono ?_); (case side1 => exact mvC_ ((Kd.V_reads' HO_0.out).2.2)); (case side2 => exact (Kd.V_reads' HO_0.out).2.1); rintro e w' ⟨rfl, ⟨nd, rfl⟩⟩) | (go_at_call 19; (with_reducible refine (shape_Size.calls kj48 _ _ l1 t616 _ ?side1 ?side2 A59.out).mono ?_); (case side1 => exact mvC_ ((Kd.V_reads' HO_1.out).2.2)); (case side2 => exact (Kd.V_reads' HO_1.out).2.1); rintro e w' ⟨rfl, ⟨nd, rfl⟩⟩) | ((with_reducible refine gate_callee (f := 18) rfl ?_); refine gL_ (some 116) Try.func18 #[.slice A0 l0.length c0] ?_; (with_reducible refine (shape_Check.calls kj48 _ _ l0 true _ ?side1 ?side2 A60.out).mono ?_); (case side1 => exact mvC_ ((Kd.V_reads' HO_0.out).2.2)); (case side2 => exact (Kd.V_reads' HO_0.out).2.1); rintro e w' ⟨rfl, ⟨nd, rfl⟩⟩; refine ⟨_, rfl, ?_⟩; obtain ⟨Ao88, co88, eo88⟩ := Kd.R_slice HO_18.out; subst eo88) | (go_at_call 19; (with_reducible refine (shape_Size.calls kj48 _ _ t605 t620 _ ?side1 ?side2 A84.out).mono ?_); (case side1 => exact mvC_ ((Kd.R_reads' HO_18.out).2.2)); (case side2 => exact (Kd.R_reads' HO_18.out).2.1); rintro e w' ⟨rfl, ⟨nd, rfl⟩⟩) | (go_at_call 19; (with_reducible refine (shape_Size.calls kj48 _ _ l0 t615 _ ?side1 ?side2 A85.out).mono ?_); (case side1 => exact mvC_ ((Kd.V_reads' HO_0.out).2.2)); (case side2 => exact (Kd.V_reads' HO_0.out).2.1); rintro e w' ⟨rfl, ⟨nd, rfl⟩⟩))
                   all_goals
                    go_ret
                    exact ⟨by first | rfl | (simp <;> rfl) | (simp [*] <;> rfl) | (simp_all <;> omega), bq0_ HB.out⟩
                  ·rw [if_neg c86] at H
                   exact absurd H (by simp)
                 ·rw [if_neg c83] at H
                  have c83b0 : (t608 == 0) = false := beq_eq_false_iff_ne.mpr c83
                  have c83b1 : (t608 != 0) = true := bne_iff_ne.mpr c83
                  obtain rfl := Option.some.inj H
                  obtain ⟨Ao89, co89, eo89⟩ := Kd.R_slice HO_14.out
                  subst eo89
                  go_wp2_with (first | (go_at_call 19; (with_reducible refine (shape_Size.calls kj48 _ _ t585 t614 _ ?side1 ?side2 A57.out).mono ?_); (case side1 => exact mvC_ ((Kd.R_reads' HO_14.out).2.2)); (case side2 => exact (Kd.R_reads' HO_14.out).2.1); rintro e w' ⟨rfl, ⟨nd, rfl⟩⟩) | (go_at_call 19; (with_reducible refine (shape_Size.calls kj48 _ _ l0 t615 _ ?side1 ?side2 A58.out).mono ?_); (case side1 => exact mvC_ ((Kd.V_reads' HO_0.out).2.2)); (case side2 => exact (Kd.V_reads' HO_0.out).2.1); rintro e w' ⟨rfl, ⟨nd, rfl⟩⟩) | (go_at_call 19; (with_reducible refine (shape_Size.calls kj48 _ _ l1 t616 _ ?side1 ?side2 A59.out).mono ?_); (case side1 => exact mvC_ ((Kd.V_reads' HO_1.out).2.2)); (case side2 => exact (Kd.V_reads' HO_1.out).2.1); rintro e w' ⟨rfl, ⟨nd, rfl⟩⟩) | ((with_reducible refine gate_callee (f := 18) rfl ?_); refine gL_ (some 116) Try.func18 #[.slice A0 l0.length c0] ?_; (with_reducible refine (shape_Check.calls kj48 _ _ l0 true _ ?side1 ?side2 A60.out).mono ?_); (case side1 => exact mvC_ ((Kd.V_reads' HO_0.out).2.2)); (case side2 => exact (Kd.V_reads' HO_0.out).2.1); rintro e w' ⟨rfl, ⟨nd, rfl⟩⟩; refine ⟨_, rfl, ?_⟩))
                  all_goals
                   go_ret
                   exact ⟨by first | rfl | (simp <;> rfl) | (simp [*] <;> rfl) | (simp_all <;> omega), bq0_ HB.out⟩
                ·rw [if_neg c82] at H
                 exact absurd H (by simp)
               ·replace c81 := Bool.eq_false_iff.mpr c81
                subst c81
                have H1 : (none) = some r := by rw [if_neg (show ¬ (false = true) by decide)] at H; exact H
                clear H
                have H := H1
                clear H1
                exact absurd H (by simp)
              ·replace c80 := Bool.eq_false_iff.mpr c80
               subst c80
               have H1 : (none) = some r := by rw [if_neg (show ¬ (false = true) by decide)] at H; exact H
               clear H
               have H := H1
               clear H1
               exact absurd H (by simp)
             ·replace c79 := Bool.eq_false_iff.mpr c79
              subst c79
              have H1 : (none) = some r := by rw [if_neg (show ¬ (false = true) by decide)] at H; exact H
              clear H
              have H := H1
              clear H1
              exact absurd H (by simp)
           ·rw [if_neg c63] at H
            exact absurd H (by simp)
          ·as_aux_lemma =>
           rw [if_neg c62] at H
           have c62b0 : decide (0 ≤ a2) = false := decide_eq_false c62
           clear c62
           by_cases c90 : ((t598 == 0) == false) = true
           ·as_aux_lemma =>
            rw [if_pos c90] at H
            have c90b0 : ((t598 == 0) == false) = true := c90
            (try (have c90b1 : decide ((t598 == 0) = false) = true := by simpa using c90))
            (try (have c90b2 : ((t598 == 0) == false) = true := by simpa using c90))
            clear c90
            by_cases c91 : t598 = 0
            ·as_aux_lemma =>
             rw [if_pos c91] at H
             obtain ⟨c91b0, c91b1⟩ := eqT_ c91
             clear c91
             by_cases c92 : t564 = true
             ·as_aux_lemma =>
              subst c92
              have H1 : (if x20_14 = true then (if x21_48 = true then (if t614 = (wrap64 (t615 + t616)) then (if (t595.length : Int) = (wrap64 ((l0.length : Int) - 1)) then (if t608 = 0 then ((shape_Size.f kj48 t605).bind fun t622 => ((shape_Size.f kj48 l0).bind fun t623 => (if t622 ≤ t623 then (some ((t605.length : Int) == (l0.length : Int))) else (none)))) else (some true)) else (none)) else (none)) else (none)) else (none)) = some r := by rw [if_pos rfl] at H; exact H
              clear H
              have H := H1
              clear H1
              by_cases c93 : x20_14 = true
              ·as_aux_lemma =>
               subst c93
               have H1 : (if x21_48 = true then (if t614 = (wrap64 (t615 + t616)) then (if (t595.length : Int) = (wrap64 ((l0.length : Int) - 1)) then (if t608 = 0 then ((shape_Size.f kj48 t605).bind fun t622 => ((shape_Size.f kj48 l0).bind fun t623 => (if t622 ≤ t623 then (some ((t605.length : Int) == (l0.length : Int))) else (none)))) else (some true)) else (none)) else (none)) else (none)) = some r := by rw [if_pos rfl] at H; exact H
               clear H
               have H := H1
               clear H1
               by_cases c94 : x21_48 = true
               ·as_aux_lemma =>
                subst c94
                have H1 : (if t614 = (wrap64 (t615 + t616)) then (if (t595.length : Int) = (wrap64 ((l0.length : Int) - 1)) then (if t608 = 0 then ((shape_Size.f kj48 t605).bind fun t622 => ((shape_Size.f kj48 l0).bind fun t623 => (if t622 ≤ t623 then (some ((t605.length : Int) == (l0.length : Int))) else (none)))) else (some true)) else (none)) else (none)) = some r := by rw [if_pos rfl] at H; exact H
                clear H
                have H := H1
                clear H1
                by_cases c95 : t614 = (wrap64 (t615 + t616))
                ·as_aux_lemma =>
                 rw [if_pos c95] at H
                 obtain ⟨c95b0, c95b1⟩ := eqT_ c95
                 clear c95
                 by_cases c96 : (t595.length : Int) = (wrap64 ((l0.length : Int) - 1))
                 ·as_aux_lemma =>
                  rw [if_pos c96] at H
                  obtain ⟨c96b0, c96b1⟩ := eqT_ c96
                  clear c96
                  by_cases c97 : t608 = 0
                  ·as_aux_lemma =>
                   rw [if_pos c97] at H
                   obtain ⟨c97b0, c97b1⟩ := eqT_ c97
                   clear c97
                   replace H := Option.bind_eq_some_iff.mp H
                   obtain ⟨t622, A980, H⟩ := H
                   replace H : ((shape_Size.f kj48 l0).bind fun t623 => (if t622 ≤ t623 then (some ((t605.length : Int) == (l0.length : Int))) else (none))) = some r := H
                   have A98 := Aside0.mk A980
                   clear A980
                   replace H := Option.bind_eq_some_iff.mp H
                   obtain ⟨t623, A990, H⟩ := H
                   replace H : (if t622 ≤ t623 then (some ((t605.length : Int) == (l0.length : Int))) else (none)) = some r := H
                   have A99 := Aside0.mk A990
                   clear A990
                   obtain rfl : t615 = t623 := Option.some.inj (A58.out.symm.trans A99.out)
                   by_cases c100 : t622 ≤ t615
                   ·as_aux_lemma =>
                    rw [if_pos c100] at H
                    have c100b0 : decide (t622 ≤ t615) = true := decide_eq_true c100
                    clear c100
                    obtain rfl := Option.some.inj H
                    obtain ⟨Ao101, co101, eo101⟩ := Kd.R_slice HO_14.out
                    subst eo101
                    go_wp2_with (first | (go_at_call 19; (with_reducible refine (shape_Size.calls kj48 _ _ t585 t614 _ ?side1 ?side2 A57.out).mono ?_); (case side1 => exact mvC_ ((Kd.R_reads' HO_14.out).2.2)); (case side2 => exact (Kd.R_reads' HO_14.out).2.1); rintro e w' ⟨rfl, ⟨nd, rfl⟩⟩) | (go_at_call 19; (with_reducible refine (shape_Size.calls kj48 _ _ l0 t615 _ ?side1 ?side2 A58.out).mono ?_); (case side1 => exact mvC_ ((Kd.V_reads' HO_0.out).2.2)); (case side2 => exact (Kd.V_reads' HO_0.out).2.1); rintro e w' ⟨rfl, ⟨nd, rfl⟩⟩) | (go_at_call 19; (with_reducible refine (shape_Size.calls kj48 _ _ l1 t616 _ ?side1 ?side2 A59.out).mono ?_); (case side1 => exact mvC_ ((Kd.V_reads' HO_1.out).2.2)); (case side2 => exact (Kd.V_reads' HO_1.out).2.1); rintro e w' ⟨rfl, ⟨nd, rfl⟩⟩) | ((with_reducible refine gate_callee (f := 18) rfl ?_); refine gL_ (some 116) Try.func18 #[.slice A0 l0.length c0] ?_; (with_reducible refine (shape_Check.calls kj48 _ _ l0 true _ ?side1 ?side2 A60.out).mono ?_); (case side1 => exact mvC_ ((Kd.V_reads' HO_0.out).2.2)); (case side2 => exact (Kd.V_reads' HO_0.out).2.1); rintro e w' ⟨rfl, ⟨nd, rfl⟩⟩; refine ⟨_, rfl, ?_⟩; obtain ⟨Ao102, co102, eo102⟩ := Kd.R_slice HO_16.out; subst eo102; obtain ⟨Ao103, co103, eo103⟩ := Kd.R_slice HO_18.out; subst eo103) | (go_at_call 19; (with_reducible refine (shape_Size.calls kj48 _ _ t605 t622 _ ?side1 ?side2 A98.out).mono ?_); (case side1 => exact mvC_ ((Kd.R_reads' HO_18.out).2.2)); (case side2 => exact (Kd.R_reads' HO_18.out).2.1); rintro e w' ⟨rfl, ⟨nd, rfl⟩⟩) | (go_at_call 19; (with_reducible refine (shape_Size.calls kj48 _ _ l0 t615 _ ?side1 ?side2 A99.out).mono ?_); (case side1 => exact mvC_ ((Kd.V_reads' HO_0.out).2.2)); (case side2 => exact (Kd.V_reads' HO_0.out).2.1); rintro e w' ⟨rfl, ⟨nd, rfl⟩⟩))
                    all_goals
                     go_ret
                     exact ⟨by first | rfl | (simp <;> rfl) | (simp [*] <;> rfl) | (simp_all <;> omega), bq0_ HB.out⟩
                   ·rw [if_neg c100] at H
                    exact absurd H (by simp)
                  ·rw [if_neg c97] at H
                   have c97b0 : (t608 == 0) = false := beq_eq_false_iff_ne.mpr c97
                   have c97b1 : (t608 != 0) = true := bne_iff_ne.mpr c97
                   obtain rfl := Option.some.inj H
                   obtain ⟨Ao104, co104, eo104⟩ := Kd.R_slice HO_14.out
                   subst eo104
                   go_wp2_with (first | (go_at_call 19; (with_reducible refine (shape_Size.calls kj48 _ _ t585 t614 _ ?side1 ?side2 A57.out).mono ?_); (case side1 => exact mvC_ ((Kd.R_reads' HO_14.out).2.2)); (case side2 => exact (Kd.R_reads' HO_14.out).2.1); rintro e w' ⟨rfl, ⟨nd, rfl⟩⟩) | (go_at_call 19; (with_reducible refine (shape_Size.calls kj48 _ _ l0 t615 _ ?side1 ?side2 A58.out).mono ?_); (case side1 => exact mvC_ ((Kd.V_reads' HO_0.out).2.2)); (case side2 => exact (Kd.V_reads' HO_0.out).2.1); rintro e w' ⟨rfl, ⟨nd, rfl⟩⟩) | (go_at_call 19; (with_reducible refine (shape_Size.calls kj48 _ _ l1 t616 _ ?side1 ?side2 A59.out).mono ?_); (case side1 => exact mvC_ ((Kd.V_reads' HO_1.out).2.2)); (case side2 => exact (Kd.V_reads' HO_1.out).2.1); rintro e w' ⟨rfl, ⟨nd, rfl⟩⟩) | ((with_reducible refine gate_callee (f := 18) rfl ?_); refine gL_ (some 116) Try.func18 #[.slice A0 l0.length c0] ?_; (with_reducible refine (shape_Check.calls kj48 _ _ l0 true _ ?side1 ?side2 A60.out).mono ?_); (case side1 => exact mvC_ ((Kd.V_reads' HO_0.out).2.2)); (case side2 => exact (Kd.V_reads' HO_0.out).2.1); rintro e w' ⟨rfl, ⟨nd, rfl⟩⟩; refine ⟨_, rfl, ?_⟩; obtain ⟨Ao105, co105, eo105⟩ := Kd.R_slice HO_16.out; subst eo105))
                   all_goals
                    go_ret
                    exact ⟨by first | rfl | (simp <;> rfl) | (simp [*] <;> rfl) | (simp_all <;> omega), bq0_ HB.out⟩
                 ·rw [if_neg c96] at H
                  exact absurd H (by simp)
                ·rw [if_neg c95] at H
                 exact absurd H (by simp)
               ·replace c94 := Bool.eq_false_iff.mpr c94
                subst c94
                have H1 : (none) = some r := by rw [if_neg (show ¬ (false = true) by decide)] at H; exact H
                clear H
                have H := H1
                clear H1
                exact absurd H (by simp)
              ·replace c93 := Bool.eq_false_iff.mpr c93
               subst c93
               have H1 : (none) = some r := by rw [if_neg (show ¬ (false = true) by decide)] at H; exact H
               clear H
               have H := H1
               clear H1
               exact absurd H (by simp)
             ·replace c92 := Bool.eq_false_iff.mpr c92
              subst c92
              have H1 : (none) = some r := by rw [if_neg (show ¬ (false = true) by decide)] at H; exact H
              clear H
              have H := H1
              clear H1
              exact absurd H (by simp)
            ·as_aux_lemma =>
             rw [if_neg c91] at H
             have c91b0 : (t598 == 0) = false := beq_eq_false_iff_ne.mpr c91
             have c91b1 : (t598 != 0) = true := bne_iff_ne.mpr c91
             by_cases c106 : t564 = true
             ·as_aux_lemma =>
              subst c106
              have H1 : (if x20_14 = true then (if x21_48 = true then (if t614 = (wrap64 (t615 + t616)) then (if t608 = 0 then ((shape_Size.f kj48 t605).bind fun t624 => ((shape_Size.f kj48 l0).bind fun t625 => (if t624 ≤ t625 then (some ((t605.length : Int) == (l0.length : Int))) else (none)))) else (some true)) else (none)) else (none)) else (none)) = some r := by rw [if_pos rfl] at H; exact H
              clear H
              have H := H1
              clear H1
              by_cases c107 : x20_14 = true
              ·as_aux_lemma =>
               subst c107
               have H1 : (if x21_48 = true then (if t614 = (wrap64 (t615 + t616)) then (if t608 = 0 then ((shape_Size.f kj48 t605).bind fun t624 => ((shape_Size.f kj48 l0).bind fun t625 => (if t624 ≤ t625 then (some ((t605.length : Int) == (l0.length : Int))) else (none)))) else (some true)) else (none)) else (none)) = some r := by rw [if_pos rfl] at H; exact H
               clear H
               have H := H1
               clear H1
               by_cases c108 : x21_48 = true
               ·as_aux_lemma =>
                subst c108
                have H1 : (if t614 = (wrap64 (t615 + t616)) then (if t608 = 0 then ((shape_Size.f kj48 t605).bind fun t624 => ((shape_Size.f kj48 l0).bind fun t625 => (if t624 ≤ t625 then (some ((t605.length : Int) == (l0.length : Int))) else (none)))) else (some true)) else (none)) = some r := by rw [if_pos rfl] at H; exact H
                clear H
                have H := H1
                clear H1
                by_cases c109 : t614 = (wrap64 (t615 + t616))
                ·as_aux_lemma =>
                 rw [if_pos c109] at H
                 obtain ⟨c109b0, c109b1⟩ := eqT_ c109
                 clear c109
                 by_cases c110 : t608 = 0
                 ·as_aux_lemma =>
                  rw [if_pos c110] at H
                  obtain ⟨c110b0, c110b1⟩ := eqT_ c110
                  clear c110
                  replace H := Option.bind_eq_some_iff.mp H
                  obtain ⟨t624, A1110, H⟩ := H
                  replace H : ((shape_Size.f kj48 l0).bind fun t625 => (if t624 ≤ t625 then (some ((t605.length : Int) == (l0.length : Int))) else (none))) = some r := H
                  have A111 := Aside0.mk A1110
                  clear A1110
                  replace H := Option.bind_eq_some_iff.mp H
                  obtain ⟨t625, A1120, H⟩ := H
                  replace H : (if t624 ≤ t625 then (some ((t605.length : Int) == (l0.length : Int))) else (none)) = some r := H
                  have A112 := Aside0.mk A1120
                  clear A1120
                  obtain rfl : t615 = t625 := Option.some.inj (A58.out.symm.trans A112.out)
                  by_cases c113 : t624 ≤ t615
                  ·as_aux_lemma =>
                   rw [if_pos c113] at H
                   have c113b0 : decide (t624 ≤ t615) = true := decide_eq_true c113
                   clear c113
                   obtain rfl := Option.some.inj H
                   obtain ⟨Ao114, co114, eo114⟩ := Kd.R_slice HO_14.out
                   subst eo114
                   go_wp2_with (first | (go_at_call 19; (with_reducible refine (shape_Size.calls kj48 _ _ t585 t614 _ ?side1 ?side2 A57.out).mono ?_); (case side1 => exact mvC_ ((Kd.R_reads' HO_14.out).2.2)); (case side2 => exact (Kd.R_reads' HO_14.out).2.1); rintro e w' ⟨rfl, ⟨nd, rfl⟩⟩) | (go_at_call 19; (with_reducible refine (shape_Size.calls kj48 _ _ l0 t615 _ ?side1 ?side2 A58.out).mono ?_); (case side1 => exact mvC_ ((Kd.V_reads' HO_0.out).2.2)); (case side2 => exact (Kd.V_reads' HO_0.out).2.1); rintro e w' ⟨rfl, ⟨nd, rfl⟩⟩) | (go_at_call 19; (with_reducible refine (shape_Size.calls kj48 _ _ l1 t616 _ ?side1 ?side2 A59.out).mono ?_); (case side1 => exact mvC_ ((Kd.V_reads' HO_1.out).2.2)); (case side2 => exact (Kd.V_reads' HO_1.out).2.1); rintro e w' ⟨rfl, ⟨nd, rfl⟩⟩) | ((with_reducible refine gate_callee (f := 18) rfl ?_); refine gL_ (some 116) Try.func18 #[.slice A0 l0.length c0] ?_; (with_reducible refine (shape_Check.calls kj48 _ _ l0 true _ ?side1 ?side2 A60.out).mono ?_); (case side1 => exact mvC_ ((Kd.V_reads' HO_0.out).2.2)); (case side2 => exact (Kd.V_reads' HO_0.out).2.1); rintro e w' ⟨rfl, ⟨nd, rfl⟩⟩; refine ⟨_, rfl, ?_⟩; obtain ⟨Ao115, co115, eo115⟩ := Kd.R_slice HO_18.out; subst eo115) | (go_at_call 19; (with_reducible refine (shape_Size.calls kj48 _ _ t605 t624 _ ?side1 ?side2 A111.out).mono ?_); (case side1 => exact mvC_ ((Kd.R_reads' HO_18.out).2.2)); (case side2 => exact (Kd.R_reads' HO_18.out).2.1); rintro e w' ⟨rfl, ⟨nd, rfl⟩⟩) | (go_at_call 19; (with_reducible refine (shape_Size.calls kj48 _ _ l0 t615 _ ?side1 ?side2 A112.out).mono ?_); (case side1 => exact mvC_ ((Kd.V_reads' HO_0.out).2.2)); (case side2 => exact (Kd.V_reads' HO_0.out).2.1); rintro e w' ⟨rfl, ⟨nd, rfl⟩⟩))
                   all_goals
                    go_ret
                    exact ⟨by first | rfl | (simp <;> rfl) | (simp [*] <;> rfl) | (simp_all <;> omega), bq0_ HB.out⟩
                  ·rw [if_neg c113] at H
                   exact absurd H (by simp)
                 ·rw [if_neg c110] at H
                  have c110b0 : (t608 == 0) = false := beq_eq_false_iff_ne.mpr c110
                  have c110b1 : (t608 != 0) = true := bne_iff_ne.mpr c110
                  obtain rfl := Option.some.inj H
                  obtain ⟨Ao116, co116, eo116⟩ := Kd.R_slice HO_14.out
                  subst eo116
                  go_wp2_with (first | (go_at_call 19; (with_reducible refine (shape_Size.calls kj48 _ _ t585 t614 _ ?side1 ?side2 A57.out).mono ?_); (case side1 => exact mvC_ ((Kd.R_reads' HO_14.out).2.2)); (case side2 => exact (Kd.R_reads' HO_14.out).2.1); rintro e w' ⟨rfl, ⟨nd, rfl⟩⟩) | (go_at_call 19; (with_reducible refine (shape_Size.calls kj48 _ _ l0 t615 _ ?side1 ?side2 A58.out).mono ?_); (case side1 => exact mvC_ ((Kd.V_reads' HO_0.out).2.2)); (case side2 => exact (Kd.V_reads' HO_0.out).2.1); rintro e w' ⟨rfl, ⟨nd, rfl⟩⟩) | (go_at_call 19; (with_reducible refine (shape_Size.calls kj48 _ _ l1 t616 _ ?side1 ?side2 A59.out).mono ?_); (case side1 => exact mvC_ ((Kd.V_reads' HO_1.out).2.2)); (case side2 => exact (Kd.V_reads' HO_1.out).2.1); rintro e w' ⟨rfl, ⟨nd, rfl⟩⟩) | ((with_reducible refine gate_callee (f := 18) rfl ?_); refine gL_ (some 116) Try.func18 #[.slice A0 l0.length c0] ?_; (with_reducible refine (shape_Check.calls kj48 _ _ l0 true _ ?side1 ?side2 A60.out).mono ?_); (case side1 => exact mvC_ ((Kd.V_reads' HO_0.out).2.2)); (case side2 => exact (Kd.V_reads' HO_0.out).2.1); rintro e w' ⟨rfl, ⟨nd, rfl⟩⟩; refine ⟨_, rfl, ?_⟩))
                  all_goals
                   go_ret
                   exact ⟨by first | rfl | (simp <;> rfl) | (simp [*] <;> rfl) | (simp_all <;> omega), bq0_ HB.out⟩
                ·rw [if_neg c109] at H
                 exact absurd H (by simp)
               ·replace c108 := Bool.eq_false_iff.mpr c108
                subst c108
                have H1 : (none) = some r := by rw [if_neg (show ¬ (false = true) by decide)] at H; exact H
                clear H
                have H := H1
                clear H1
                exact absurd H (by simp)
              ·replace c107 := Bool.eq_false_iff.mpr c107
               subst c107
               have H1 : (none) = some r := by rw [if_neg (show ¬ (false = true) by decide)] at H; exact H
               clear H
               have H := H1
               clear H1
               exact absurd H (by simp)
             ·replace c106 := Bool.eq_false_iff.mpr c106
              subst c106
              have H1 : (none) = some r := by rw [if_neg (show ¬ (false = true) by decide)] at H; exact H
              clear H
              have H := H1
              clear H1
              exact absurd H (by simp)
           ·rw [if_neg c90] at H
            exact absurd H (by simp)
         ·as_aux_lemma =>
          replace c61 := Bool.eq_false_iff.mpr c61
          subst c61
          have H1 : (if ((t598 == 0) == false) = true then (if t598 = 0 then (if t564 = true then (if x20_14 = true then (if x21_48 = true then (if t614 = (wrap64 (t615 + t616)) then (if (t595.length : Int) = (wrap64 ((l0.length : Int) - 1)) then (if t608 = 0 then ((shape_Size.f kj48 t605).bind fun t626 => ((shape_Size.f kj48 l0).bind fun t627 => (if t626 ≤ t627 then (some ((t605.length : Int) == (l0.length : Int))) else (none)))) else (some true)) else (none)) else (none)) else (none)) else (none)) else (none)) else (if t564 = true then (if x20_14 = true then (if x21_48 = true then (if t614 = (wrap64 (t615 + t616)) then (if t608 = 0 then ((shape_Size.f kj48 t605).bind fun t628 => ((shape_Size.f kj48 l0).bind fun t629 => (if t628 ≤ t629 then (some ((t605.length : Int) == (l0.length : Int))) else (none)))) else (some true)) else (none)) else (none)) else (none)) else (none))) else (none)) = some r := by rw [if_neg (show ¬ (false = true) by decide)] at H; exact H
          clear H
          have H := H1
          clear H1
          by_cases c117 : ((t598 == 0) == false) = true
          ·as_aux_lemma =>
           rw [if_pos c117] at H
           have c117b0 : ((t598 == 0) == false) = true := c117
           (try (have c117b1 : decide ((t598 == 0) = false) = true := by simpa using c117))
           (try (have c117b2 : ((t598 == 0) == false) = true := by simpa using c117))
           clear c117
           by_cases c118 : t598 = 0
           ·as_aux_lemma =>
            rw [if_pos c118] at H
            obtain ⟨c118b0, c118b1⟩ := eqT_ c118
            clear c118
            by_cases c119 : t564 = true
            ·as_aux_lemma =>
             subst c119
             have H1 : (if x20_14 = true then (if x21_48 = true then (if t614 = (wrap64 (t615 + t616)) then (if (t595.length : Int) = (wrap64 ((l0.length : Int) - 1)) then (if t608 = 0 then ((shape_Size.f kj48 t605).bind fun t626 => ((shape_Size.f kj48 l0).bind fun t627 => (if t626 ≤ t627 then (some ((t605.length : Int) == (l0.length : Int))) else (none)))) else (some true)) else (none)) else (none)) else (none)) else (none)) = some r := by rw [if_pos rfl] at H; exact H
             clear H
             have H := H1
             clear H1
             by_cases c120 : x20_14 = true
             ·as_aux_lemma =>
              subst c120
              have H1 : (if x21_48 = true then (if t614 = (wrap64 (t615 + t616)) then (if (t595.length : Int) = (wrap64 ((l0.length : Int) - 1)) then (if t608 = 0 then ((shape_Size.f kj48 t605).bind fun t626 => ((shape_Size.f kj48 l0).bind fun t627 => (if t626 ≤ t627 then (some ((t605.length : Int) == (l0.length : Int))) else (none)))) else (some true)) else (none)) else (none)) else (none)) = some r := by rw [if_pos rfl] at H; exact H
              clear H
              have H := H1
              clear H1
              by_cases c121 : x21_48 = true
              ·as_aux_lemma =>
               subst c121
               have H1 : (if t614 = (wrap64 (t615 + t616)) then (if (t595.length : Int) = (wrap64 ((l0.length : Int) - 1)) then (if t608 = 0 then ((shape_Size.f kj48 t605).bind fun t626 => ((shape_Size.f kj48 l0).bind fun t627 => (if t626 ≤ t627 then (some ((t605.length : Int) == (l0.length : Int))) else (none)))) else (some true)) else (none)) else (none)) = some r := by rw [if_pos rfl] at H; exact H
               clear H
               have H := H1
               clear H1
               by_cases c122 : t614 = (wrap64 (t615 + t616))
               ·as_aux_lemma =>
                rw [if_pos c122] at H
                obtain ⟨c122b0, c122b1⟩ := eqT_ c122
                clear c122
                by_cases c123 : (t595.length : Int) = (wrap64 ((l0.length : Int) - 1))
                ·as_aux_lemma =>
                 rw [if_pos c123] at H
                 obtain ⟨c123b0, c123b1⟩ := eqT_ c123
                 clear c123
                 by_cases c124 : t608 = 0
                 ·as_aux_lemma =>
                  rw [if_pos c124] at H
                  obtain ⟨c124b0, c124b1⟩ := eqT_ c124
                  clear c124
                  replace H := Option.bind_eq_some_iff.mp H
                  obtain ⟨t626, A1250, H⟩ := H
                  replace H : ((shape_Size.f kj48 l0).bind fun t627 => (if t626 ≤ t627 then (some ((t605.length : Int) == (l0.length : Int))) else (none))) = some r := H
                  have A125 := Aside0.mk A1250
                  clear A1250
                  replace H := Option.bind_eq_some_iff.mp H
                  obtain ⟨t627, A1260, H⟩ := H
                  replace H : (if t626 ≤ t627 then (some ((t605.length : Int) == (l0.length : Int))) else (none)) = some r := H
                  have A126 := Aside0.mk A1260
                  clear A1260
                  obtain rfl : t615 = t627 := Option.some.inj (A58.out.symm.trans A126.out)
                  by_cases c127 : t626 ≤ t615
                  ·as_aux_lemma =>
                   rw [if_pos c127] at H
                   have c127b0 : decide (t626 ≤ t615) = true := decide_eq_true c127
                   clear c127
                   obtain rfl := Option.some.inj H
                   obtain ⟨Ao128, co128, eo128⟩ := Kd.R_slice HO_14.out
                   subst eo128
                   go_wp2_with (first | (go_at_call 19; (with_reducible refine (shape_Size.calls kj48 _ _ t585 t614 _ ?side1 ?side2 A57.out).mono ?_); (case side1 => exact mvC_ ((Kd.R_reads' HO_14.out).2.2)); (case side2 => exact (Kd.R_reads' HO_14.out).2.1); rintro e w' ⟨rfl, ⟨nd, rfl⟩⟩) | (go_at_call 19; (with_reducible refine (shape_Size.calls kj48 _ _ l0 t615 _ ?side1 ?side2 A58.out).mono ?_); (case side1 => exact mvC_ ((Kd.V_reads' HO_0.out).2.2)); (case side2 => exact (Kd.V_reads' HO_0.out).2.1); rintro e w' ⟨rfl, ⟨nd, rfl⟩⟩) | (go_at_call 19; (with_reducible refine (shape_Size.calls kj48 _ _ l1 t616 _ ?side1 ?side2 A59.out).mono ?_); (case side1 => exact mvC_ ((Kd.V_reads' HO_1.out).2.2)); (case side2 => exact (Kd.V_reads' HO_1.out).2.1); rintro e w' ⟨rfl, ⟨nd, rfl⟩⟩) | ((with_reducible refine gate_callee (f := 18) rfl ?_); refine gL_ (some 116) Try.func18 #[.slice A0 l0.length c0] ?_; (with_reducible refine (shape_Check.calls kj48 _ _ l0 false _ ?side1 ?side2 A60.out).mono ?_); (case side1 => exact mvC_ ((Kd.V_reads' HO_0.out).2.2)); (case side2 => exact (Kd.V_reads' HO_0.out).2.1); rintro e w' ⟨rfl, ⟨nd, rfl⟩⟩; refine ⟨_, rfl, ?_⟩; obtain ⟨Ao129, co129, eo129⟩ := Kd.R_slice HO_16.out; subst eo129; obtain ⟨Ao130, co130, eo130⟩ := Kd.R_slice HO_18.out; subst eo130) | (go_at_call 19; (with_reducible refine (shape_Size.calls kj48 _ _ t605 t626 _ ?side1 ?side2 A125.out).mono ?_); (case side1 => exact mvC_ ((Kd.R_reads' HO_18.out).2.2)); (case side2 => exact (Kd.R_reads' HO_18.out).2.1); rintro e w' ⟨rfl, ⟨nd, rfl⟩⟩) | (go_at_call 19; (with_reducible refine (shape_Size.calls kj48 _ _ l0 t615 _ ?side1 ?side2 A126.out).mono ?_); (case side1 => exact mvC_ ((Kd.V_reads' HO_0.out).2.2)); (case side2 => exact (Kd.V_reads' HO_0.out).2.1); rintro e w' ⟨rfl, ⟨nd, rfl⟩⟩))
                   all_goals
                    go_ret
                    exact ⟨by first | rfl | (simp <;> rfl) | (simp [*] <;> rfl) | (simp_all <;> omega), bq0_ HB.out⟩
                  ·rw [if_neg c127] at H
                   exact absurd H (by simp)
                 ·rw [if_neg c124] at H
                  have c124b0 : (t608 == 0) = false := beq_eq_false_iff_ne.mpr c124
                  have c124b1 : (t608 != 0) = true := bne_iff_ne.mpr c124
                  obtain rfl := Option.some.inj H
                  obtain ⟨Ao131, co131, eo131⟩ := Kd.R_slice HO_14.out
                  subst eo131
                  go_wp2_with (first | (go_at_call 19; (with_reducible refine (shape_Size.calls kj48 _ _ t585 t614 _ ?side1 ?side2 A57.out).mono ?_); (case side1 => exact mvC_ ((Kd.R_reads' HO_14.out).2.2)); (case side2 => exact (Kd.R_reads' HO_14.out).2.1); rintro e w' ⟨rfl, ⟨nd, rfl⟩⟩) | (go_at_call 19; (with_reducible refine (shape_Size.calls kj48 _ _ l0 t615 _ ?side1 ?side2 A58.out).mono ?_); (case side1 => exact mvC_ ((Kd.V_reads' HO_0.out).2.2)); (case side2 => exact (Kd.V_reads' HO_0.out).2.1); rintro e w' ⟨rfl, ⟨nd, rfl⟩⟩) | (go_at_call 19; (with_reducible refine (shape_Size.calls kj48 _ _ l1 t616 _ ?side1 ?side2 A59.out).mono ?_); (case side1 => exact mvC_ ((Kd.V_reads' HO_1.out).2.2)); (case side2 => exact (Kd.V_reads' HO_1.out).2.1); rintro e w' ⟨rfl, ⟨nd, rfl⟩⟩) | ((with_reducible refine gate_callee (f := 18) rfl ?_); refine gL_ (some 116) Try.func18 #[.slice A0 l0.length c0] ?_; (with_reducible refine (shape_Check.calls kj48 _ _ l0 false _ ?side1 ?side2 A60.out).mono ?_); (case side1 => exact mvC_ ((Kd.V_reads' HO_0.out).2.2)); (case side2 => exact (Kd.V_reads' HO_0.out).2.1); rintro e w' ⟨rfl, ⟨nd, rfl⟩⟩; refine ⟨_, rfl, ?_⟩; obtain ⟨Ao132, co132, eo132⟩ := Kd.R_slice HO_16.out; subst eo132))
                  all_goals
                   go_ret
                   exact ⟨by first | rfl | (simp <;> rfl) | (simp [*] <;> rfl) | (simp_all <;> omega), bq0_ HB.out⟩
                ·rw [if_neg c123] at H
                 exact absurd H (by simp)
               ·rw [if_neg c122] at H
                exact absurd H (by simp)
              ·replace c121 := Bool.eq_false_iff.mpr c121
               subst c121
               have H1 : (none) = some r := by rw [if_neg (show ¬ (false = true) by decide)] at H; exact H
               clear H
               have H := H1
               clear H1
               exact absurd H (by simp)
             ·replace c120 := Bool.eq_false_iff.mpr c120
              subst c120
              have H1 : (none) = some r := by rw [if_neg (show ¬ (false = true) by decide)] at H; exact H
              clear H
              have H := H1
              clear H1
              exact absurd H (by simp)
            ·replace c119 := Bool.eq_false_iff.mpr c119
             subst c119
             have H1 : (none) = some r := by rw [if_neg (show ¬ (false = true) by decide)] at H; exact H
             clear H
             have H := H1
             clear H1
             exact absurd H (by simp)
           ·as_aux_lemma =>
            rw [if_neg c118] at H
            have c118b0 : (t598 == 0) = false := beq_eq_false_iff_ne.mpr c118
            have c118b1 : (t598 != 0) = true := bne_iff_ne.mpr c118
            by_cases c133 : t564 = true
            ·as_aux_lemma =>
             subst c133
             have H1 : (if x20_14 = true then (if x21_48 = true then (if t614 = (wrap64 (t615 + t616)) then (if t608 = 0 then ((shape_Size.f kj48 t605).bind fun t628 => ((shape_Size.f kj48 l0).bind fun t629 => (if t628 ≤ t629 then (some ((t605.length : Int) == (l0.length : Int))) else (none)))) else (some true)) else (none)) else (none)) else (none)) = some r := by rw [if_pos rfl] at H; exact H
             clear H
             have H := H1
             clear H1
             by_cases c134 : x20_14 = true
             ·as_aux_lemma =>
              subst c134
              have H1 : (if x21_48 = true then (if t614 = (wrap64 (t615 + t616)) then (if t608 = 0 then ((shape_Size.f kj48 t605).bind fun t628 => ((shape_Size.f kj48 l0).bind fun t629 => (if t628 ≤ t629 then (some ((t605.length : Int) == (l0.length : Int))) else (none)))) else (some true)) else (none)) else (none)) = some r := by rw [if_pos rfl] at H; exact H
              clear H
              have H := H1
              clear H1
              by_cases c135 : x21_48 = true
              ·as_aux_lemma =>
               subst c135
               have H1 : (if t614 = (wrap64 (t615 + t616)) then (if t608 = 0 then ((shape_Size.f kj48 t605).bind fun t628 => ((shape_Size.f kj48 l0).bind fun t629 => (if t628 ≤ t629 then (some ((t605.length : Int) == (l0.length : Int))) else (none)))) else (some true)) else (none)) = some r := by rw [if_pos rfl] at H; exact H
               clear H
               have H := H1
               clear H1
               by_cases c136 : t614 = (wrap64 (t615 + t616))
               ·as_aux_lemma =>
                rw [if_pos c136] at H
                obtain ⟨c136b0, c136b1⟩ := eqT_ c136
                clear c136
                by_cases c137 : t608 = 0
                ·as_aux_lemma =>
                 rw [if_pos c137] at H
                 obtain ⟨c137b0, c137b1⟩ := eqT_ c137
                 clear c137
                 replace H := Option.bind_eq_some_iff.mp H
                 obtain ⟨t628, A1380, H⟩ := H
                 replace H : ((shape_Size.f kj48 l0).bind fun t629 => (if t628 ≤ t629 then (some ((t605.length : Int) == (l0.length : Int))) else (none))) = some r := H
                 have A138 := Aside0.mk A1380
                 clear A1380
                 replace H := Option.bind_eq_some_iff.mp H
                 obtain ⟨t629, A1390, H⟩ := H
                 replace H : (if t628 ≤ t629 then (some ((t605.length : Int) == (l0.length : Int))) else (none)) = some r := H
                 have A139 := Aside0.mk A1390
                 clear A1390
                 obtain rfl : t615 = t629 := Option.some.inj (A58.out.symm.trans A139.out)
                 by_cases c140 : t628 ≤ t615
                 ·as_aux_lemma =>
                  rw [if_pos c140] at H
                  have c140b0 : decide (t628 ≤ t615) = true := decide_eq_true c140
                  clear c140
                  obtain rfl := Option.some.inj H
                  obtain ⟨Ao141, co141, eo141⟩ := Kd.R_slice HO_14.out
                  subst eo141
                  go_wp2_with (first | (go_at_call 19; (with_reducible refine (shape_Size.calls kj48 _ _ t585 t614 _ ?side1 ?side2 A57.out).mono ?_); (case side1 => exact mvC_ ((Kd.R_reads' HO_14.out).2.2)); (case side2 => exact (Kd.R_reads' HO_14.out).2.1); rintro e w' ⟨rfl, ⟨nd, rfl⟩⟩) | (go_at_call 19; (with_reducible refine (shape_Size.calls kj48 _ _ l0 t615 _ ?side1 ?side2 A58.out).mono ?_); (case side1 => exact mvC_ ((Kd.V_reads' HO_0.out).2.2)); (case side2 => exact (Kd.V_reads' HO_0.out).2.1); rintro e w' ⟨rfl, ⟨nd, rfl⟩⟩) | (go_at_call 19; (with_reducible refine (shape_Size.calls kj48 _ _ l1 t616 _ ?side1 ?side2 A59.out).mono ?_); (case side1 => exact mvC_ ((Kd.V_reads' HO_1.out).2.2)); (case side2 => exact (Kd.V_reads' HO_1.out).2.1); rintro e w' ⟨rfl, ⟨nd, rfl⟩⟩) | ((with_reducible refine gate_callee (f := 18) rfl ?_); refine gL_ (some 116) Try.func18 #[.slice A0 l0.length c0] ?_; (with_reducible refine (shape_Check.calls kj48 _ _ l0 false _ ?side1 ?side2 A60.out).mono ?_); (case side1 => exact mvC_ ((Kd.V_reads' HO_0.out).2.2)); (case side2 => exact (Kd.V_reads' HO_0.out).2.1); rintro e w' ⟨rfl, ⟨nd, rfl⟩⟩; refine ⟨_, rfl, ?_⟩; obtain ⟨Ao142, co142, eo142⟩ := Kd.R_slice HO_18.out; subst eo142) | (go_at_call 19; (with_reducible refine (shape_Size.calls kj48 _ _ t605 t628 _ ?side1 ?side2 A138.out).mono ?_); (case side1 => exact mvC_ ((Kd.R_reads' HO_18.out).2.2)); (case side2 => exact (Kd.R_reads' HO_18.out).2.1); rintro e w' ⟨rfl, ⟨nd, rfl⟩⟩) | (go_at_call 19; (with_reducible refine (shape_Size.calls kj48 _ _ l0 t615 _ ?side1 ?side2 A139.out).mono ?_); (case side1 => exact mvC_ ((Kd.V_reads' HO_0.out).2.2)); (case side2 => exact (Kd.V_reads' HO_0.out).2.1); rintro e w' ⟨rfl, ⟨nd, rfl⟩⟩))
                  all_goals
                   go_ret
                   exact ⟨by first | rfl | (simp <;> rfl) | (simp [*] <;> rfl) | (simp_all <;> omega), bq0_ HB.out⟩
                 ·rw [if_neg c140] at H
                  exact absurd H (by simp)
                ·rw [if_neg c137] at H
                 have c137b0 : (t608 == 0) = false := beq_eq_false_iff_ne.mpr c137
                 have c137b1 : (t608 != 0) = true := bne_iff_ne.mpr c137
                 obtain rfl := Option.some.inj H
                 obtain ⟨Ao143, co143, eo143⟩ := Kd.R_slice HO_14.out
                 subst eo143
                 go_wp2_with (first | (go_at_call 19; (with_reducible refine (shape_Size.calls kj48 _ _ t585 t614 _ ?side1 ?side2 A57.out).mono ?_); (case side1 => exact mvC_ ((Kd.R_reads' HO_14.out).2.2)); (case side2 => exact (Kd.R_reads' HO_14.out).2.1); rintro e w' ⟨rfl, ⟨nd, rfl⟩⟩) | (go_at_call 19; (with_reducible refine (shape_Size.calls kj48 _ _ l0 t615 _ ?side1 ?side2 A58.out).mono ?_); (case side1 => exact mvC_ ((Kd.V_reads' HO_0.out).2.2)); (case side2 => exact (Kd.V_reads' HO_0.out).2.1); rintro e w' ⟨rfl, ⟨nd, rfl⟩⟩) | (go_at_call 19; (with_reducible refine (shape_Size.calls kj48 _ _ l1 t616 _ ?side1 ?side2 A59.out).mono ?_); (case side1 => exact mvC_ ((Kd.V_reads' HO_1.out).2.2)); (case side2 => exact (Kd.V_reads' HO_1.out).2.1); rintro e w' ⟨rfl, ⟨nd, rfl⟩⟩) | ((with_reducible refine gate_callee (f := 18) rfl ?_); refine gL_ (some 116) Try.func18 #[.slice A0 l0.length c0] ?_; (with_reducible refine (shape_Check.calls kj48 _ _ l0 false _ ?side1 ?side2 A60.out).mono ?_); (case side1 => exact mvC_ ((Kd.V_reads' HO_0.out).2.2)); (case side2 => exact (Kd.V_reads' HO_0.out).2.1); rintro e w' ⟨rfl, ⟨nd, rfl⟩⟩; refine ⟨_, rfl, ?_⟩))
                 all_goals
                  go_ret
                  exact ⟨by first | rfl | (simp <;> rfl) | (simp [*] <;> rfl) | (simp_all <;> omega), bq0_ HB.out⟩
               ·rw [if_neg c136] at H
                exact absurd H (by simp)
              ·replace c135 := Bool.eq_false_iff.mpr c135
               subst c135
               have H1 : (none) = some r := by rw [if_neg (show ¬ (false = true) by decide)] at H; exact H
               clear H
               have H := H1
               clear H1
               exact absurd H (by simp)
             ·replace c134 := Bool.eq_false_iff.mpr c134
              subst c134
              have H1 : (none) = some r := by rw [if_neg (show ¬ (false = true) by decide)] at H; exact H
              clear H
              have H := H1
              clear H1
              exact absurd H (by simp)
            ·replace c133 := Bool.eq_false_iff.mpr c133
             subst c133
             have H1 : (none) = some r := by rw [if_neg (show ¬ (false = true) by decide)] at H; exact H
             clear H
             have H := H1
             clear H1
             exact absurd H (by simp)
          ·rw [if_neg c117] at H
           exact absurd H (by simp)
        ·as_aux_lemma =>
         rw [if_neg c56] at H
         have c56b0 : (t588 == 0) = false := beq_eq_false_iff_ne.mpr c56
         have c56b1 : (t588 != 0) = true := bne_iff_ne.mpr c56
         replace H := Option.bind_eq_some_iff.mp H
         obtain ⟨t630, A1440, H⟩ := H
         replace H : (if t630 = true then (if a2 ≥ 0 then (if ((t598 == 0) == (decide (a2 < (l0.length : Int)))) = true then (if t598 = 0 then (if t564 = true then (if x20_14 = true then (if x21_48 = true then (if (t595.length : Int) = (wrap64 ((l0.length : Int) - 1)) then (if t608 = 0 then ((shape_Size.f kj48 t605).bind fun t631 => ((shape_Size.f kj48 l0).bind fun t632 => (if t631 ≤ t632 then (some ((t605.length : Int) == (l0.length : Int))) else (none)))) else (some true)) else (none)) else (none)) else (none)) else (none)) else (if t564 = true then (if x20_14 = true then (if x21_48 = true then (if t608 = 0 then ((shape_Size.f kj48 t605).bind fun t633 => ((shape_Size.f kj48 l0).bind fun t634 => (if t633 ≤ t634 then (some ((t605.length : Int) == (l0.length : Int))) else (none)))) else (some true)) else (none)) else (none)) else (none))) else (none)) else (if ((t598 == 0) == false) = true then (if t598 = 0 then (if t564 = true then (if x20_14 = true then (if x21_48 = true then (if (t595.length : Int) = (wrap64 ((l0.length : Int) - 1)) then (if t608 = 0 then ((shape_Size.f kj48 t605).bind fun t635 => ((shape_Size.f kj48 l0).bind fun t636 => (if t635 ≤ t636 then (some ((t605.length : Int) == (l0.length : Int))) else (none)))) else (some true)) else (none)) else (none)) else (none)) else (none)) else (if t564 = true then (if x20_14 = true then (if x21_48 = true then (if t608 = 0 then ((shape_Size.f kj48 t605).bind fun t637 => ((shape_Size.f kj48 l0).bind fun t638 => (if t637 ≤ t638 then (some ((t605.length : Int) == (l0.length : Int))) else (none)))) else (some true)) else (none)) else (none)) else (none))) else (none))) else (if ((t598 == 0) == false) = true then (if t598 = 0 then (if t564 = true then (if x20_14 = true then (if x21_48 = true then (if (t595.length : Int) = (wrap64 ((l0.length : Int) - 1)) then (if t608 = 0 then ((shape_Size.f kj48 t605).bind fun t639 => ((shape_Size.f kj48 l0).bind fun t640 => (if t639 ≤ t640 then (some ((t605.length : Int) == (l0.length : Int))) else (none)))) else (some true)) else (none)) else (none)) else (none)) else (none)) else (if t564 = true then (if x20_14 = true then (if x21_48 = true then (if t608 = 0 then ((shape_Size.f kj48 t605).bind fun t641 => ((shape_Size.f kj48 l0).bind fun t642 => (if t641 ≤ t642 then (some ((t605.length : Int) == (l0.length : Int))) else (none)))) else (some true)) else (none)) else (none)) else (none))) else (none))) = some r := H
         have A144 := Aside0.mk A1440
         clear A1440
         by_cases c145 : t630 = true
         ·as_aux_lemma =>
          subst c145
          have H1 : (if a2 ≥ 0 then (if ((t598 == 0) == (decide (a2 < (l0.length : Int)))) = true then (if t598 = 0 then (if t564 = true then (if x20_14 = true then (if x21_48 = true then (if (t595.length : Int) = (wrap64 ((l0.length : Int) - 1)) then (if t608 = 0 then ((shape_Size.f kj48 t605).bind fun t631 => ((shape_Size.f kj48 l0).bind fun t632 => (if t631 ≤ t632 then (some ((t605.length : Int) == (l0.length : Int))) else (none)))) else (some true)) else (none)) else (none)) else (none)) else (none)) else (if t564 = true then (if x20_14 = true then (if x21_48 = true then (if t608 = 0 then ((shape_Size.f kj48 t605).bind fun t633 => ((shape_Size.f kj48 l0).bind fun t634 => (if t633 ≤ t634 then (some ((t605.length : Int) == (l0.length : Int))) else (none)))) else (some true)) else (none)) else (none)) else (none))) else (none)) else (if ((t598 == 0) == false) = true then (if t598 = 0 then (if t564 = true then (if x20_14 = true then (if x21_48 = true then (if (t595.length : Int) = (wrap64 ((l0.length : Int) - 1)) then (if t608 = 0 then ((shape_Size.f kj48 t605).bind fun t635 => ((shape_Size.f kj48 l0).bind fun t636 => (if t635 ≤ t636 then (some ((t605.length : Int) == (l0.length : Int))) else (none)))) else (some true)) else (none)) else (none)) else (none)) else (none)) else (if t564 = true then (if x20_14 = true then (if x21_48 = true then (if t608 = 0 then ((shape_Size.f kj48 t605).bind fun t637 => ((shape_Size.f kj48 l0).bind fun t638 => (if t637 ≤ t638 then (some ((t605.length : Int) == (l0.length : Int))) else (none)))) else (some true)) else (none)) else (none)) else (none))) else (none))) = some r := by rw [if_pos rfl] at H; exact H
          clear H
          have H := H1
          clear H1
          by_cases c146 : a2 ≥ 0
          ·as_aux_lemma =>
           rw [if_pos c146] at H
           have c146b0 : decide (0 ≤ a2) = true := decide_eq_true c146
           clear c146
           by_cases c147 : ((t598 == 0) == (decide (a2 < (l0.length : Int)))) = true
           ·as_aux_lemma =>
            rw [if_pos c147] at H
            have c147b0 : ((t598 == 0) == (decide (a2 < (l0.length : Int)))) = true := c147
            (try (have c147b1 : decide ((t598 == 0) = (decide (a2 < (l0.length : Int)))) = true := by simpa using c147))
            (try (have c147b2 : ((t598 == 0) == (decide (a2 < (l0.length : Int)))) = true := by simpa using c147))
            clear c147
            by_cases c148 : t598 = 0
            ·as_aux_lemma =>
             rw [if_pos c148] at H
             obtain ⟨c148b0, c148b1⟩ := eqT_ c148
             clear c148
             by_cases c149 : t564 = true
             ·as_aux_lemma =>
              subst c149
              have H1 : (if x20_14 = true then (if x21_48 = true then (if (t595.length : Int) = (wrap64 ((l0.length : Int) - 1)) then (if t608 = 0 then ((shape_Size.f kj48 t605).bind fun t631 => ((shape_Size.f kj48 l0).bind fun t632 => (if t631 ≤ t632 then (some ((t605.length : Int) == (l0.length : Int))) else (none)))) else (some true)) else (none)) else (none)) else (none)) = some r := by rw [if_pos rfl] at H; exact H
              clear H
              have H := H1
              clear H1
              by_cases c150 : x20_14 = true
              ·as_aux_lemma =>
               subst c150
               have H1 : (if x21_48 = true then (if (t595.length : Int) = (wrap64 ((l0.length : Int) - 1)) then (if t608 = 0 then ((shape_Size.f kj48 t605).bind fun t631 => ((shape_Size.f kj48 l0).bind fun t632 => (if t631 ≤ t632 then (some ((t605.length : Int) == (l0.length : Int))) else (none)))) else (some true)) else (none)) else (none)) = some r := by rw [if_pos rfl] at H; exact H
               clear H
               have H := H1
               clear H1
               by_cases c151 : x21_48 = true
               ·as_aux_lemma =>
                subst c151
                have H1 : (if (t595.length : Int) = (wrap64 ((l0.length : Int) - 1)) then (if t608 = 0 then ((shape_Size.f kj48 t605).bind fun t631 => ((shape_Size.f kj48 l0).bind fun t632 => (if t631 ≤ t632 then (some ((t605.length : Int) == (l0.length : Int))) else (none)))) else (some true)) else (none)) = some r := by rw [if_pos rfl] at H; exact H
                clear H
                have H := H1
                clear H1
                by_cases c152 : (t595.length : Int) = (wrap64 ((l0.length : Int) - 1))
                ·as_aux_lemma =>
                 rw [if_pos c152] at H
                 obtain ⟨c152b0, c152b1⟩ := eqT_ c152
                 clear c152
                 by_cases c153 : t608 = 0
                 ·as_aux_lemma =>
                  rw [if_pos c153] at H
                  obtain ⟨c153b0, c153b1⟩ := eqT_ c153
                  clear c153
                  replace H := Option.bind_eq_some_iff.mp H
                  obtain ⟨t631, A1540, H⟩ := H
                  replace H : ((shape_Size.f kj48 l0).bind fun t632 => (if t631 ≤ t632 then (some ((t605.length : Int) == (l0.length : Int))) else (none))) = some r := H
                  have A154 := Aside0.mk A1540
                  clear A1540
                  replace H := Option.bind_eq_some_iff.mp H
                  obtain ⟨t632, A1550, H⟩ := H
                  replace H : (if t631 ≤ t632 then (some ((t605.length : Int) == (l0.length : Int))) else (none)) = some r := H
                  have A155 := Aside0.mk A1550
                  clear A1550
                  by_cases c156 : t631 ≤ t632
                  ·rw [if_pos c156] at H
                   have c156b0 : decide (t631 ≤ t632) = true := decide_eq_true c156
                   clear c156
                   obtain rfl := Option.some.inj H
                   go_wp2_with (first | ((with_reducible refine gate_callee (f := 18) rfl ?_); refine gL_ (some 116) Try.func18 #[.slice A0 l0.length c0] ?_; (with_reducible refine (shape_Check.calls kj48 _ _ l0 true _ ?side1 ?side2 A144.out).mono ?_); (case side1 => exact mvC_ ((Kd.V_reads' HO_0.out).2.2)); (case side2 => exact (Kd.V_reads' HO_0.out).2.1); rintro e w' ⟨rfl, ⟨nd, rfl⟩⟩; refine ⟨_, rfl, ?_⟩; obtain ⟨Ao157, co157, eo157⟩ := Kd.R_slice HO_16.out; subst eo157; obtain ⟨Ao158, co158, eo158⟩ := Kd.R_slice HO_18.out; subst eo158) | (go_at_call 19; (with_reducible refine (shape_Size.calls kj48 _ _ t605 t631 _ ?side1 ?side2 A154.out).mono ?_); (case side1 => exact mvC_ ((Kd.R_reads' HO_18.out).2.2)); (case side2 => exact (Kd.R_reads' HO_18.out).2.1); rintro e w' ⟨rfl, ⟨nd, rfl⟩⟩) | (go_at_call 19; (with_reducible refine (shape_Size.calls kj48 _ _ l0 t632 _ ?side1 ?side2 A155.out).mono ?_); (case side1 => exact mvC_ ((Kd.V_reads' HO_0.out).2.2)); (case side2 => exact (Kd.V_reads' HO_0.out).2.1); rintro e w' ⟨rfl, ⟨nd, rfl⟩⟩))
                   all_goals
                    go_ret
                    exact ⟨by first | rfl | (simp <;> rfl) | (simp [*] <;> rfl) | (simp_all <;> omega), bq0_ HB.out⟩
                  ·rw [if_neg c156] at H
                   exact absurd H (by simp)
                 ·rw [if_neg c153] at H
                  have c153b0 : (t608 == 0) = false := beq_eq_false_iff_ne.mpr c153
                  have c153b1 : (t608 != 0) = true := bne_iff_ne.mpr c153
                  obtain rfl := Option.some.inj H
                  go_wp2_with (first | ((with_reducible refine gate_callee (f := 18) rfl ?_); refine gL_ (some 116) Try.func18 #[.slice A0 l0.length c0] ?_; (with_reducible refine (shape_Check.calls kj48 _ _ l0 true _ ?side1 ?side2 A144.out).mono ?_); (case side1 => exact mvC_ ((Kd.V_reads' HO_0.out).2.2)); (case side2 => exact (Kd.V_reads' HO_0.out).2.1); rintro e w' ⟨rfl, ⟨nd, rfl⟩⟩; refine ⟨_, rfl, ?_⟩; obtain ⟨Ao159, co159, eo159⟩ := Kd.R_slice HO_16.out; subst eo159))
                  all_goals
                   go_ret
                   exact ⟨by first | rfl | (simp <;> rfl) | (simp [*] <;> rfl) | (simp_all <;> omega), bq0_ HB.out⟩
                ·rw [if_neg c152] at H
                 exact absurd H (by simp)
               ·replace c151 := Bool.eq_false_iff.mpr c151
                subst c151
                have H1 : (none) = some r := by rw [if_neg (show ¬ (false = true) by decide)] at H; exact H
                clear H
                have H := H1
                clear H1
                exact absurd H (by simp)
              ·replace c150 := Bool.eq_false_iff.mpr c150
               subst c150
               have H1 : (none) = some r := by rw [if_neg (show ¬ (false = true) by decide)] at H; exact H
               clear H
               have H := H1
               clear H1
               exact absurd H (by simp)
             ·replace c149 := Bool.eq_false_iff.mpr c149
              subst c149
              have H1 : (none) = some r := by rw [if_neg (show ¬ (false = true) by decide)] at H; exact H
              clear H
              have H := H1
              clear H1
              exact absurd H (by simp)
            ·as_aux_lemma =>
             rw [if_neg c148] at H
             have c148b0 : (t598 == 0) = false := beq_eq_false_iff_ne.mpr c148
             have c148b1 : (t598 != 0) = true := bne_iff_ne.mpr c148
             by_cases c160 : t564 = true
             ·as_aux_lemma =>
              subst c160
              have H1 : (if x20_14 = true then (if x21_48 = true then (if t608 = 0 then ((shape_Size.f kj48 t605).bind fun t633 => ((shape_Size.f kj48 l0).bind fun t634 => (if t633 ≤ t634 then (some ((t605.length : Int) == (l0.length : Int))) else (none)))) else (some true)) else (none)) else (none)) = some r := by rw [if_pos rfl] at H; exact H
              clear H
              have H := H1
              clear H1
              by_cases c161 : x20_14 = true
              ·as_aux_lemma =>
               subst c161
               have H1 : (if x21_48 = true then (if t608 = 0 then ((shape_Size.f kj48 t605).bind fun t633 => ((shape_Size.f kj48 l0).bind fun t634 => (if t633 ≤ t634 then (some ((t605.length : Int) == (l0.length : Int))) else (none)))) else (some true)) else (none)) = some r := by rw [if_pos rfl] at H; exact H
               clear H
               have H := H1
               clear H1
               by_cases c162 : x21_48 = true
               ·as_aux_lemma =>
                subst c162
                have H1 : (if t608 = 0 then ((shape_Size.f kj48 t605).bind fun t633 => ((shape_Size.f kj48 l0).bind fun t634 => (if t633 ≤ t634 then (some ((t605.length : Int) == (l0.length : Int))) else (none)))) else (some true)) = some r := by rw [if_pos rfl] at H; exact H
                clear H
                have H := H1
                clear H1
                by_cases c163 : t608 = 0
                ·as_aux_lemma =>
                 rw [if_pos c163] at H
                 obtain ⟨c163b0, c163b1⟩ := eqT_ c163
                 clear c163
                 replace H := Option.bind_eq_some_iff.mp H
                 obtain ⟨t633, A1640, H⟩ := H
                 replace H : ((shape_Size.f kj48 l0).bind fun t634 => (if t633 ≤ t634 then (some ((t605.length : Int) == (l0.length : Int))) else (none))) = some r := H
                 have A164 := Aside0.mk A1640
                 clear A1640
                 replace H := Option.bind_eq_some_iff.mp H
                 obtain ⟨t634, A1650, H⟩ := H
                 replace H : (if t633 ≤ t634 then (some ((t605.length : Int) == (l0.length : Int))) else (none)) = some r := H
                 have A165 := Aside0.mk A1650
                 clear A1650
                 by_cases c166 : t633 ≤ t634
                 ·rw [if_pos c166] at H
                  have c166b0 : decide (t633 ≤ t634) = true := decide_eq_true c166
                  clear c166
                  obtain rfl := Option.some.inj H
                  go_wp2_with (first | ((with_reducible refine gate_callee (f := 18) rfl ?_); refine gL_ (some 116) Try.func18 #[.slice A0 l0.length c0] ?_; (with_reducible refine (shape_Check.calls kj48 _ _ l0 true _ ?side1 ?side2 A144.out).mono ?_); (case side1 => exact mvC_ ((Kd.V_reads' HO_0.out).2.2)); (case side2 => exact (Kd.V_reads' HO_0.out).2.1); rintro e w' ⟨rfl, ⟨nd, rfl⟩⟩; refine ⟨_, rfl, ?_⟩; obtain ⟨Ao167, co167, eo167⟩ := Kd.R_slice HO_18.out; subst eo167) | (go_at_call 19; (with_reducible refine (shape_Size.calls kj48 _ _ t605 t633 _ ?side1 ?side2 A164.out).mono ?_); (case side1 => exact mvC_ ((Kd.R_reads' HO_18.out).2.2)); (case side2 => exact (Kd.R_reads' HO_18.out).2.1); rintro e w' ⟨rfl, ⟨nd, rfl⟩⟩) | (go_at_call 19; (with_reducible refine (shape_Size.calls kj48 _ _ l0 t634 _ ?side1 ?side2 A165.out).mono ?_); (case side1 => exact mvC_ ((Kd.V_reads' HO_0.out).2.2)); (case side2 => exact (Kd.V_reads' HO_0.out).2.1); rintro e w' ⟨rfl, ⟨nd, rfl⟩⟩))
                  all_goals
                   go_ret
                   exact ⟨by first | rfl | (simp <;> rfl) | (simp [*] <;> rfl) | (simp_all <;> omega), bq0_ HB.out⟩
                 ·rw [if_neg c166] at H
                  exact absurd H (by simp)
                ·rw [if_neg c163] at H
                 have c163b0 : (t608 == 0) = false := beq_eq_false_iff_ne.mpr c163
                 have c163b1 : (t608 != 0) = true := bne_iff_ne.mpr c163
                 obtain rfl := Option.some.inj H
                 go_wp2_with (first | ((with_reducible refine gate_callee (f := 18) rfl ?_); refine gL_ (some 116) Try.func18 #[.slice A0 l0.length c0] ?_; (with_reducible refine (shape_Check.calls kj48 _ _ l0 true _ ?side1 ?side2 A144.out).mono ?_); (case side1 => exact mvC_ ((Kd.V_reads' HO_0.out).2.2)); (case side2 => exact (Kd.V_reads' HO_0.out).2.1); rintro e w' ⟨rfl, ⟨nd, rfl⟩⟩; refine ⟨_, rfl, ?_⟩))
                 all_goals
                  go_ret
                  exact ⟨by first | rfl | (simp <;> rfl) | (simp [*] <;> rfl) | (simp_all <;> omega), bq0_ HB.out⟩
               ·replace c162 := Bool.eq_false_iff.mpr c162
                subst c162
                have H1 : (none) = some r := by rw [if_neg (show ¬ (false = true) by decide)] at H; exact H
                clear H
                have H := H1
                clear H1
                exact absurd H (by simp)
              ·replace c161 := Bool.eq_false_iff.mpr c161
               subst c161
               have H1 : (none) = some r := by rw [if_neg (show ¬ (false = true) by decide)] at H; exact H
               clear H
               have H := H1
               clear H1
               exact absurd H (by simp)
             ·replace c160 := Bool.eq_false_iff.mpr c160
              subst c160
              have H1 : (none) = some r := by rw [if_neg (show ¬ (false = true) by decide)] at H; exact H
              clear H
              have H := H1
              clear H1
              exact absurd H (by simp)
           ·rw [if_neg c147] at H
            exact absurd H (by simp)
          ·as_aux_lemma =>
           rw [if_neg c146] at H
           have c146b0 : decide (0 ≤ a2) = false := decide_eq_false c146
           clear c146
           by_cases c168 : ((t598 == 0) == false) = true
           ·as_aux_lemma =>
            rw [if_pos c168] at H
            have c168b0 : ((t598 == 0) == false) = true := c168
            (try (have c168b1 : decide ((t598 == 0) = false) = true := by simpa using c168))
            (try (have c168b2 : ((t598 == 0) == false) = true := by simpa using c168))
            clear c168
            by_cases c169 : t598 = 0
            ·as_aux_lemma =>
             rw [if_pos c169] at H
             obtain ⟨c169b0, c169b1⟩ := eqT_ c169
             clear c169
             by_cases c170 : t564 = true
             ·as_aux_lemma =>
              subst c170
              have H1 : (if x20_14 = true then (if x21_48 = true then (if (t595.length : Int) = (wrap64 ((l0.length : Int) - 1)) then (if t608 = 0 then ((shape_Size.f kj48 t605).bind fun t635 => ((shape_Size.f kj48 l0).bind fun t636 => (if t635 ≤ t636 then (some ((t605.length : Int) == (l0.length : Int))) else (none)))) else (some true)) else (none)) else (none)) else (none)) = some r := by rw [if_pos rfl] at H; exact H
              clear H
              have H := H1
              clear H1
              by_cases c171 : x20_14 = true
              ·as_aux_lemma =>
               subst c171
               have H1 : (if x21_48 = true then (if (t595.length : Int) = (wrap64 ((l0.length : Int) - 1)) then (if t608 = 0 then ((shape_Size.f kj48 t605).bind fun t635 => ((shape_Size.f kj48 l0).bind fun t636 => (if t635 ≤ t636 then (some ((t605.length : Int) == (l0.length : Int))) else (none)))) else (some true)) else (none)) else (none)) = some r := by rw [if_pos rfl] at H; exact H
               clear H
               have H := H1
               clear H1
               by_cases c172 : x21_48 = true
               ·as_aux_lemma =>
                subst c172
                have H1 : (if (t595.length : Int) = (wrap64 ((l0.length : Int) - 1)) then (if t608 = 0 then ((shape_Size.f kj48 t605).bind fun t635 => ((shape_Size.f kj48 l0).bind fun t636 => (if t635 ≤ t636 then (some ((t605.length : Int) == (l0.length : Int))) else (none)))) else (some true)) else (none)) = some r := by rw [if_pos rfl] at H; exact H
                clear H
                have H := H1
                clear H1
                by_cases c173 : (t595.length : Int) = (wrap64 ((l0.length : Int) - 1))
                ·as_aux_lemma =>
                 rw [if_pos c173] at H
                 obtain ⟨c173b0, c173b1⟩ := eqT_ c173
                 clear c173
                 by_cases c174 : t608 = 0
                 ·as_aux_lemma =>
                  rw [if_pos c174] at H
                  obtain ⟨c174b0, c174b1⟩ := eqT_ c174
                  clear c174
                  replace H := Option.bind_eq_some_iff.mp H
                  obtain ⟨t635, A1750, H⟩ := H
                  replace H : ((shape_Size.f kj48 l0).bind fun t636 => (if t635 ≤ t636 then (some ((t605.length : Int) == (l0.length : Int))) else (none))) = some r := H
                  have A175 := Aside0.mk A1750
                  clear A1750
                  replace H := Option.bind_eq_some_iff.mp H
                  obtain ⟨t636, A1760, H⟩ := H
                  replace H : (if t635 ≤ t636 then (some ((t605.length : Int) == (l0.length : Int))) else (none)) = some r := H
                  have A176 := Aside0.mk A1760
                  clear A1760
                  by_cases c177 : t635 ≤ t636
                  ·rw [if_pos c177] at H
                   have c177b0 : decide (t635 ≤ t636) = true := decide_eq_true c177
                   clear c177
                   obtain rfl := Option.some.inj H
                   go_wp2_with (first | ((with_reducible refine gate_callee (f := 18) rfl ?_); refine gL_ (some 116) Try.func18 #[.slice A0 l0.length c0] ?_; (with_reducible refine (shape_Check.calls kj48 _ _ l0 true _ ?side1 ?side2 A144.out).mono ?_); (case side1 => exact mvC_ ((Kd.V_reads' HO_0.out).2.2)); (case side2 => exact (Kd.V_reads' HO_0.out).2.1); rintro e w' ⟨rfl, ⟨nd, rfl⟩⟩; refine ⟨_, rfl, ?_⟩; obtain ⟨Ao178, co178, eo178⟩ := Kd.R_slice HO_16.out; subst eo178; obtain ⟨Ao179, co179, eo179⟩ := Kd.R_slice HO_18.out; subst eo179) | (go_at_call 19; (with_reducible refine (shape_Size.calls kj48 _ _ t605 t635 _ ?side1 ?side2 A175.out).mono ?_); (case side1 => exact mvC_ ((Kd.R_reads' HO_18.out).2.2)); (case side2 => exact (Kd.R_reads' HO_18.out).2.1); rintro e w' ⟨rfl, ⟨nd, rfl⟩⟩) | (go_at_call 19; (with_reducible refine (shape_Size.calls kj48 _ _ l0 t636 _ ?side1 ?side2 A176.out).mono ?_); (case side1 => exact mvC_ ((Kd.V_reads' HO_0.out).2.2)); (case side2 => exact (Kd.V_reads' HO_0.out).2.1); rintro e w' ⟨rfl, ⟨nd, rfl⟩⟩))
                   all_goals
                    go_ret
                    exact ⟨by first | rfl | (simp <;> rfl) | (simp [*] <;> rfl) | (simp_all <;> omega), bq0_ HB.out⟩
                  ·rw [if_neg c177] at H
                   exact absurd H (by simp)
                 ·rw [if_neg c174] at H
                  have c174b0 : (t608 == 0) = false := beq_eq_false_iff_ne.mpr c174
                  have c174b1 : (t608 != 0) = true := bne_iff_ne.mpr c174
                  obtain rfl := Option.some.inj H
                  go_wp2_with (first | ((with_reducible refine gate_callee (f := 18) rfl ?_); refine gL_ (some 116) Try.func18 #[.slice A0 l0.length c0] ?_; (with_reducible refine (shape_Check.calls kj48 _ _ l0 true _ ?side1 ?side2 A144.out).mono ?_); (case side1 => exact mvC_ ((Kd.V_reads' HO_0.out).2.2)); (case side2 => exact (Kd.V_reads' HO_0.out).2.1); rintro e w' ⟨rfl, ⟨nd, rfl⟩⟩; refine ⟨_, rfl, ?_⟩; obtain ⟨Ao180, co180, eo180⟩ := Kd.R_slice HO_16.out; subst eo180))
                  all_goals
                   go_ret
                   exact ⟨by first | rfl | (simp <;> rfl) | (simp [*] <;> rfl) | (simp_all <;> omega), bq0_ HB.out⟩
                ·rw [if_neg c173] at H
                 exact absurd H (by simp)
               ·replace c172 := Bool.eq_false_iff.mpr c172
                subst c172
                have H1 : (none) = some r := by rw [if_neg (show ¬ (false = true) by decide)] at H; exact H
                clear H
                have H := H1
                clear H1
                exact absurd H (by simp)
              ·replace c171 := Bool.eq_false_iff.mpr c171
               subst c171
               have H1 : (none) = some r := by rw [if_neg (show ¬ (false = true) by decide)] at H; exact H
               clear H
               have H := H1
               clear H1
               exact absurd H (by simp)
             ·replace c170 := Bool.eq_false_iff.mpr c170
              subst c170
              have H1 : (none) = some r := by rw [if_neg (show ¬ (false = true) by decide)] at H; exact H
              clear H
              have H := H1
              clear H1
              exact absurd H (by simp)
            ·as_aux_lemma =>
             rw [if_neg c169] at H
             have c169b0 : (t598 == 0) = false := beq_eq_false_iff_ne.mpr c169
             have c169b1 : (t598 != 0) = true := bne_iff_ne.mpr c169
             by_cases c181 : t564 = true
             ·as_aux_lemma =>
              subst c181
              have H1 : (if x20_14 = true then (if x21_48 = true then (if t608 = 0 then ((shape_Size.f kj48 t605).bind fun t637 => ((shape_Size.f kj48 l0).bind fun t638 => (if t637 ≤ t638 then (some ((t605.length : Int) == (l0.length : Int))) else (none)))) else (some true)) else (none)) else (none)) = some r := by rw [if_pos rfl] at H; exact H
              clear H
              have H := H1
              clear H1
              by_cases c182 : x20_14 = true
              ·as_aux_lemma =>
               subst c182
               have H1 : (if x21_48 = true then (if t608 = 0 then ((shape_Size.f kj48 t605).bind fun t637 => ((shape_Size.f kj48 l0).bind fun t638 => (if t637 ≤ t638 then (some ((t605.length : Int) == (l0.length : Int))) else (none)))) else (some true)) else (none)) = some r := by rw [if_pos rfl] at H; exact H
               clear H
               have H := H1
               clear H1
               by_cases c183 : x21_48 = true
               ·as_aux_lemma =>
                subst c183
                have H1 : (if t608 = 0 then ((shape_Size.f kj48 t605).bind fun t637 => ((shape_Size.f kj48 l0).bind fun t638 => (if t637 ≤ t638 then (some ((t605.length : Int) == (l0.length : Int))) else (none)))) else (some true)) = some r := by rw [if_pos rfl] at H; exact H
                clear H
                have H := H1
                clear H1
                by_cases c184 : t608 = 0
                ·as_aux_lemma =>
                 rw [if_pos c184] at H
                 obtain ⟨c184b0, c184b1⟩ := eqT_ c184
                 clear c184
                 replace H := Option.bind_eq_some_iff.mp H
                 obtain ⟨t637, A1850, H⟩ := H
                 replace H : ((shape_Size.f kj48 l0).bind fun t638 => (if t637 ≤ t638 then (some ((t605.length : Int) == (l0.length : Int))) else (none))) = some r := H
                 have A185 := Aside0.mk A1850
                 clear A1850
                 replace H := Option.bind_eq_some_iff.mp H
                 obtain ⟨t638, A1860, H⟩ := H
                 replace H : (if t637 ≤ t638 then (some ((t605.length : Int) == (l0.length : Int))) else (none)) = some r := H
                 have A186 := Aside0.mk A1860
                 clear A1860
                 by_cases c187 : t637 ≤ t638
                 ·rw [if_pos c187] at H
                  have c187b0 : decide (t637 ≤ t638) = true := decide_eq_true c187
                  clear c187
                  obtain rfl := Option.some.inj H
                  go_wp2_with (first | ((with_reducible refine gate_callee (f := 18) rfl ?_); refine gL_ (some 116) Try.func18 #[.slice A0 l0.length c0] ?_; (with_reducible refine (shape_Check.calls kj48 _ _ l0 true _ ?side1 ?side2 A144.out).mono ?_); (case side1 => exact mvC_ ((Kd.V_reads' HO_0.out).2.2)); (case side2 => exact (Kd.V_reads' HO_0.out).2.1); rintro e w' ⟨rfl, ⟨nd, rfl⟩⟩; refine ⟨_, rfl, ?_⟩; obtain ⟨Ao188, co188, eo188⟩ := Kd.R_slice HO_18.out; subst eo188) | (go_at_call 19; (with_reducible refine (shape_Size.calls kj48 _ _ t605 t637 _ ?side1 ?side2 A185.out).mono ?_); (case side1 => exact mvC_ ((Kd.R_reads' HO_18.out).2.2)); (case side2 => exact (Kd.R_reads' HO_18.out).2.1); rintro e w' ⟨rfl, ⟨nd, rfl⟩⟩) | (go_at_call 19; (with_reducible refine (shape_Size.calls kj48 _ _ l0 t638 _ ?side1 ?side2 A186.out).mono ?_); (case side1 => exact mvC_ ((Kd.V_reads' HO_0.out).2.2)); (case side2 => exact (Kd.V_reads' HO_0.out).2.1); rintro e w' ⟨rfl, ⟨nd, rfl⟩⟩))
                  all_goals
                   go_ret
                   exact ⟨by first | rfl | (simp <;> rfl) | (simp [*] <;> rfl) | (simp_all <;> omega), bq0_ HB.out⟩
                 ·rw [if_neg c187] at H
                  exact absurd H (by simp)
                ·rw [if_neg c184] at H
                 have c184b0 : (t608 == 0) = false := beq_eq_false_iff_ne.mpr c184
                 have c184b1 : (t608 != 0) = true := bne_iff_ne.mpr c184
                 obtain rfl := Option.some.inj H
                 go_wp2_with (first | ((with_reducible refine gate_callee (f := 18) rfl ?_); refine gL_ (some 116) Try.func18 #[.slice A0 l0.length c0] ?_; (with_reducible refine (shape_Check.calls kj48 _ _ l0 true _ ?side1 ?side2 A144.out).mono ?_); (case side1 => exact mvC_ ((Kd.V_reads' HO_0.out).2.2)); (case side2 => exact (Kd.V_reads' HO_0.out).2.1); rintro e w' ⟨rfl, ⟨nd, rfl⟩⟩; refine ⟨_, rfl, ?_⟩))
                 all_goals
                  go_ret
                  exact ⟨by first | rfl | (simp <;> rfl) | (simp [*] <;> rfl) | (simp_all <;> omega), bq0_ HB.out⟩
               ·replace c183 := Bool.eq_false_iff.mpr c183
                subst c183
                have H1 : (none) = some r := by rw [if_neg (show ¬ (false = true) by decide)] at H; exact H
                clear H
                have H := H1
                clear H1
                exact absurd H (by simp)
              ·replace c182 := Bool.eq_false_iff.mpr c182
               subst c182
               have H1 : (none) = some r := by rw [if_neg (show ¬ (false = true) by decide)] at H; exact H
               clear H
               have H := H1
               clear H1
               exact absurd H (by simp)
             ·replace c181 := Bool.eq_false_iff.mpr c181
              subst c181
              have H1 : (none) = some r := by rw [if_neg (show ¬ (false = true) by decide)] at H; exact H
              clear H
              have H := H1
              clear H1
              exact absurd H (by simp)
           ·rw [if_neg c168] at H
            exact absurd H (by simp)
         ·as_aux_lemma =>
          replace c145 := Bool.eq_false_iff.mpr c145
          subst c145
          have H1 : (if ((t598 == 0) == false) = true then (if t598 = 0 then (if t564 = true then (if x20_14 = true then (if x21_48 = true then (if (t595.length : Int) = (wrap64 ((l0.length : Int) - 1)) then (if t608 = 0 then ((shape_Size.f kj48 t605).bind fun t639 => ((shape_Size.f kj48 l0).bind fun t640 => (if t639 ≤ t640 then (some ((t605.length : Int) == (l0.length : Int))) else (none)))) else (some true)) else (none)) else (none)) else (none)) else (none)) else (if t564 = true then (if x20_14 = true then (if x21_48 = true then (if t608 = 0 then ((shape_Size.f kj48 t605).bind fun t641 => ((shape_Size.f kj48 l0).bind fun t642 => (if t641 ≤ t642 then (some ((t605.length : Int) == (l0.length : Int))) else (none)))) else (some true)) else (none)) else (none)) else (none))) else (none)) = some r := by rw [if_neg (show ¬ (false = true) by decide)] at H; exact H
          clear H
          have H := H1
          clear H1
          by_cases c189 : ((t598 == 0) == false) = true
          ·as_aux_lemma =>
           rw [if_pos c189] at H
           have c189b0 : ((t598 == 0) == false) = true := c189
           (try (have c189b1 : decide ((t598 == 0) = false) = true := by simpa using c189))
           (try (have c189b2 : ((t598 == 0) == false) = true := by simpa using c189))
           clear c189
           by_cases c190 : t598 = 0
           ·as_aux_lemma =>
            rw [if_pos c190] at H
            obtain ⟨c190b0, c190b1⟩ := eqT_ c190
            clear c190
            by_cases c191 : t564 = true
            ·as_aux_lemma =>
             subst c191
             have H1 : (if x20_14 = true then (if x21_48 = true then (if (t595.length : Int) = (wrap64 ((l0.length : Int) - 1)) then (if t608 = 0 then ((shape_Size.f kj48 t605).bind fun t639 => ((shape_Size.f kj48 l0).bind fun t640 => (if t639 ≤ t640 then (some ((t605.length : Int) == (l0.length : Int))) else (none)))) else (some true)) else (none)) else (none)) else (none)) = some r := by rw [if_pos rfl] at H; exact H
             clear H
             have H := H1
             clear H1
             by_cases c192 : x20_14 = true
             ·as_aux_lemma =>
              subst c192
              have H1 : (if x21_48 = true then (if (t595.length : Int) = (wrap64 ((l0.length : Int) - 1)) then (if t608 = 0 then ((shape_Size.f kj48 t605).bind fun t639 => ((shape_Size.f kj48 l0).bind fun t640 => (if t639 ≤ t640 then (some ((t605.length : Int) == (l0.length : Int))) else (none)))) else (some true)) else (none)) else (none)) = some r := by rw [if_pos rfl] at H; exact H
              clear H
              have H := H1
              clear H1
              by_cases c193 : x21_48 = true
              ·as_aux_lemma =>
               subst c193
               have H1 : (if (t595.length : Int) = (wrap64 ((l0.length : Int) - 1)) then (if t608 = 0 then ((shape_Size.f kj48 t605).bind fun t639 => ((shape_Size.f kj48 l0).bind fun t640 => (if t639 ≤ t640 then (some ((t605.length : Int) == (l0.length : Int))) else (none)))) else (some true)) else (none)) = some r := by rw [if_pos rfl] at H; exact H
               clear H
               have H := H1
               clear H1
               by_cases c194 : (t595.length : Int) = (wrap64 ((l0.length : Int) - 1))
               ·as_aux_lemma =>
                rw [if_pos c194] at H
                obtain ⟨c194b0, c194b1⟩ := eqT_ c194
                clear c194
                by_cases c195 : t608 = 0
                ·as_aux_lemma =>
                 rw [if_pos c195] at H
                 obtain ⟨c195b0, c195b1⟩ := eqT_ c195
                 clear c195
                 replace H := Option.bind_eq_some_iff.mp H
                 obtain ⟨t639, A1960, H⟩ := H
                 replace H : ((shape_Size.f kj48 l0).bind fun t640 => (if t639 ≤ t640 then (some ((t605.length : Int) == (l0.length : Int))) else (none))) = some r := H
                 have A196 := Aside0.mk A1960
                 clear A1960
                 replace H := Option.bind_eq_some_iff.mp H
                 obtain ⟨t640, A1970, H⟩ := H
                 replace H : (if t639 ≤ t640 then (some ((t605.length : Int) == (l0.length : Int))) else (none)) = some r := H
                 have A197 := Aside0.mk A1970
                 clear A1970
                 by_cases c198 : t639 ≤ t640
                 ·rw [if_pos c198] at H
                  have c198b0 : decide (t639 ≤ t640) = true := decide_eq_true c198
                  clear c198
                  obtain rfl := Option.some.inj H
                  go_wp2_with (first | ((with_reducible refine gate_callee (f := 18) rfl ?_); refine gL_ (some 116) Try.func18 #[.slice A0 l0.length c0] ?_; (with_reducible refine (shape_Check.calls kj48 _ _ l0 false _ ?side1 ?side2 A144.out).mono ?_); (case side1 => exact mvC_ ((Kd.V_reads' HO_0.out).2.2)); (case side2 => exact (Kd.V_reads' HO_0.out).2.1); rintro e w' ⟨rfl, ⟨nd, rfl⟩⟩; refine ⟨_, rfl, ?_⟩; obtain ⟨Ao199, co199, eo199⟩ := Kd.R_slice HO_16.out; subst eo199; obtain ⟨Ao200, co200, eo200⟩ := Kd.R_slice HO_18.out; subst eo200) | (go_at_call 19; (with_reducible refine (shape_Size.calls kj48 _ _ t605 t639 _ ?side1 ?side2 A196.out).mono ?_); (case side1 => exact mvC_ ((Kd.R_reads' HO_18.out).2.2)); (case side2 => exact (Kd.R_reads' HO_18.out).2.1); rintro e w' ⟨rfl, ⟨nd, rfl⟩⟩) | (go_at_call 19; (with_reducible refine (shape_Size.calls kj48 _ _ l0 t640 _ ?side1 ?side2 A197.out).mono ?_); (case side1 => exact mvC_ ((Kd.V_reads' HO_0.out).2.2)); (case side2 => exact (Kd.V_reads' HO_0.out).2.1); rintro e w' ⟨rfl, ⟨nd, rfl⟩⟩))
                  all_goals
                   go_ret
                   exact ⟨by first | rfl | (simp <;> rfl) | (simp [*] <;> rfl) | (simp_all <;> omega), bq0_ HB.out⟩
                 ·rw [if_neg c198] at H
                  exact absurd H (by simp)
                ·rw [if_neg c195] at H
                 have c195b0 : (t608 == 0) = false := beq_eq_false_iff_ne.mpr c195
                 have c195b1 : (t608 != 0) = true := bne_iff_ne.mpr c195
                 obtain rfl := Option.some.inj H
                 go_wp2_with (first | ((with_reducible refine gate_callee (f := 18) rfl ?_); refine gL_ (some 116) Try.func18 #[.slice A0 l0.length c0] ?_; (with_reducible refine (shape_Check.calls kj48 _ _ l0 false _ ?side1 ?side2 A144.out).mono ?_); (case side1 => exact mvC_ ((Kd.V_reads' HO_0.out).2.2)); (case side2 => exact (Kd.V_reads' HO_0.out).2.1); rintro e w' ⟨rfl, ⟨nd, rfl⟩⟩; refine ⟨_, rfl, ?_⟩; obtain ⟨Ao201, co201, eo201⟩ := Kd.R_slice HO_16.out; subst eo201))
                 all_goals
                  go_ret
                  exact ⟨by first | rfl | (simp <;> rfl) | (simp [*] <;> rfl) | (simp_all <;> omega), bq0_ HB.out⟩
               ·rw [if_neg c194] at H
                exact absurd H (by simp)
              ·replace c193 := Bool.eq_false_iff.mpr c193
               subst c193
               have H1 : (none) = some r := by rw [if_neg (show ¬ (false = true) by decide)] at H; exact H
               clear H
               have H := H1
               clear H1
               exact absurd H (by simp)
             ·replace c192 := Bool.eq_false_iff.mpr c192
              subst c192
              have H1 : (none) = some r := by rw [if_neg (show ¬ (false = true) by decide)] at H; exact H
              clear H
              have H := H1
              clear H1
              exact absurd H (by simp)
            ·replace c191 := Bool.eq_false_iff.mpr c191
             subst c191
             have H1 : (none) = some r := by rw [if_neg (show ¬ (false = true) by decide)] at H; exact H
             clear H
             have H := H1
             clear H1
             exact absurd H (by simp)
           ·as_aux_lemma =>
            rw [if_neg c190] at H
            have c190b0 : (t598 == 0) = false := beq_eq_false_iff_ne.mpr c190
            have c190b1 : (t598 != 0) = true := bne_iff_ne.mpr c190
            by_cases c202 : t564 = true
            ·as_aux_lemma =>
             subst c202
             have H1 : (if x20_14 = true then (if x21_48 = true then (if t608 = 0 then ((shape_Size.f kj48 t605).bind fun t641 => ((shape_Size.f kj48 l0).bind fun t642 => (if t641 ≤ t642 then (some ((t605.length : Int) == (l0.length : Int))) else (none)))) else (some true)) else (none)) else (none)) = some r := by rw [if_pos rfl] at H; exact H
             clear H
             have H := H1
             clear H1
             by_cases c203 : x20_14 = true
             ·as_aux_lemma =>
              subst c203
              have H1 : (if x21_48 = true then (if t608 = 0 then ((shape_Size.f kj48 t605).bind fun t641 => ((shape_Size.f kj48 l0).bind fun t642 => (if t641 ≤ t642 then (some ((t605.length : Int) == (l0.length : Int))) else (none)))) else (some true)) else (none)) = some r := by rw [if_pos rfl] at H; exact H
              clear H
              have H := H1
              clear H1
              by_cases c204 : x21_48 = true
              ·as_aux_lemma =>
               subst c204
               have H1 : (if t608 = 0 then ((shape_Size.f kj48 t605).bind fun t641 => ((shape_Size.f kj48 l0).bind fun t642 => (if t641 ≤ t642 then (some ((t605.length : Int) == (l0.length : Int))) else (none)))) else (some true)) = some r := by rw [if_pos rfl] at H; exact H
               clear H
               have H := H1
               clear H1
               by_cases c205 : t608 = 0
               ·as_aux_lemma =>
                rw [if_pos c205] at H
                obtain ⟨c205b0, c205b1⟩ := eqT_ c205
                clear c205
                replace H := Option.bind_eq_some_iff.mp H
                obtain ⟨t641, A2060, H⟩ := H
                replace H : ((shape_Size.f kj48 l0).bind fun t642 => (if t641 ≤ t642 then (some ((t605.length : Int) == (l0.length : Int))) else (none))) = some r := H
                have A206 := Aside0.mk A2060
                clear A2060
                replace H := Option.bind_eq_some_iff.mp H
                obtain ⟨t642, A2070, H⟩ := H
                replace H : (if t641 ≤ t642 then (some ((t605.length : Int) == (l0.length : Int))) else (none)) = some r := H
                have A207 := Aside0.mk A2070
                clear A2070
                by_cases c208 : t641 ≤ t642
                ·rw [if_pos c208] at H
                 have c208b0 : decide (t641 ≤ t642) = true := decide_eq_true c208
                 clear c208
                 obtain rfl := Option.some.inj H
                 go_wp2_with (first | ((with_reducible refine gate_callee (f := 18) rfl ?_); refine gL_ (some 116) Try.func18 #[.slice A0 l0.length c0] ?_; (with_reducible refine (shape_Check.calls kj48 _ _ l0 false _ ?side1 ?side2 A144.out).mono ?_); (case side1 => exact mvC_ ((Kd.V_reads' HO_0.out).2.2)); (case side2 => exact (Kd.V_reads' HO_0.out).2.1); rintro e w' ⟨rfl, ⟨nd, rfl⟩⟩; refine ⟨_, rfl, ?_⟩; obtain ⟨Ao209, co209, eo209⟩ := Kd.R_slice HO_18.out; subst eo209) | (go_at_call 19; (with_reducible refine (shape_Size.calls kj48 _ _ t605 t641 _ ?side1 ?side2 A206.out).mono ?_); (case side1 => exact mvC_ ((Kd.R_reads' HO_18.out).2.2)); (case side2 => exact (Kd.R_reads' HO_18.out).2.1); rintro e w' ⟨rfl, ⟨nd, rfl⟩⟩) | (go_at_call 19; (with_reducible refine (shape_Size.calls kj48 _ _ l0 t642 _ ?side1 ?side2 A207.out).mono ?_); (case side1 => exact mvC_ ((Kd.V_reads' HO_0.out).2.2)); (case side2 => exact (Kd.V_reads' HO_0.out).2.1); rintro e w' ⟨rfl, ⟨nd, rfl⟩⟩))
                 all_goals
                  go_ret
                  exact ⟨by first | rfl | (simp <;> rfl) | (simp [*] <;> rfl) | (simp_all <;> omega), bq0_ HB.out⟩
                ·rw [if_neg c208] at H
                 exact absurd H (by simp)
               ·rw [if_neg c205] at H
                have c205b0 : (t608 == 0) = false := beq_eq_false_iff_ne.mpr c205
                have c205b1 : (t608 != 0) = true := bne_iff_ne.mpr c205
                obtain rfl := Option.some.inj H
                go_wp2_with (first | ((with_reducible refine gate_callee (f := 18) rfl ?_); refine gL_ (some 116) Try.func18 #[.slice A0 l0.length c0] ?_; (with_reducible refine (shape_Check.calls kj48 _ _ l0 false _ ?side1 ?side2 A144.out).mono ?_); (case side1 => exact mvC_ ((Kd.V_reads' HO_0.out).2.2)); (case side2 => exact (Kd.V_reads' HO_0.out).2.1); rintro e w' ⟨rfl, ⟨nd, rfl⟩⟩; refine ⟨_, rfl, ?_⟩))
                all_goals
                 go_ret
                 exact ⟨by first | rfl | (simp <;> rfl) | (simp [*] <;> rfl) | (simp_all <;> omega), bq0_ HB.out⟩
              ·replace c204 := Bool.eq_false_iff.mpr c204
               subst c204
               have H1 : (none) = some r := by rw [if_neg (show ¬ (false = true) by decide)] at H; exact H
               clear H
               have H := H1
               clear H1
               exact absurd H (by simp)
             ·replace c203 := Bool.eq_false_iff.mpr c203
              subst c203
              have H1 : (none) = some r := by rw [if_neg (show ¬ (false = true) by decide)] at H; exact H
              clear H
              have H := H1
              clear H1
              exact absurd H (by simp)
            ·replace c202 := Bool.eq_false_iff.mpr c202
             subst c202
             have H1 : (none) = some r := by rw [if_neg (show ¬ (false = true) by decide)] at H; exact H
             clear H
             have H := H1
             clear H1
             exact absurd H (by simp)
          ·rw [if_neg c189] at H
           exact absurd H (by simp)

/-- THE ONE PURE STATEMENT of fullerlaw11_InferSizes: yours. -/
def fullerlaw11_InferSizes.Pure : Prop := ∀ (l0 : List Int) (l1 : List Int) (a2 : Int) (a3 : Int), (l0.length * 8 ≤ 140737488351232 ∧ ∀ x_ ∈ l0, (Lit.int .i64 x_).wf = true) → (l1.length * 8 ≤ 140737488351232 ∧ ∀ x_ ∈ l1, (Lit.int .i64 x_).wf = true) → ((Lit.int .i64 a2).wf = true) → ((Lit.int .i64 a3).wf = true) → ∃ k, fullerlaw11_InferSizes.f k l0 l1 a2 a3 = some true
theorem fullerlaw11_InferSizes.walk (P : fullerlaw11_InferSizes.Pure) (P0_ : Nat → Prop) (A0 : Option Addr) (c0 : Nat) (l0 : List Int) (P1_ : Nat → Prop) (A1 : Option Addr) (c1 : Nat) (l1 : List Int) (a2 : Int) (a3 : Int) (w : World) (hr0 : Kd.C (Kd.int .i64) w A0 l0.length l0) (hc0 : l0.length ≤ c0) (hr1 : Kd.C (Kd.int .i64) w A1 l1.length l1) (hc1 : l1.length ≤ c1) (hg0 : l0.length * 8 ≤ 140737488351232 ∧ ∀ x_ ∈ l0, (Lit.int .i64 x_).wf = true) (hg1 : l1.length * 8 ≤ 140737488351232 ∧ ∀ x_ ∈ l1, (Lit.int .i64 x_).wf = true) (hg2 : (Lit.int .i64 a2).wf = true) (hg3 : (Lit.int .i64 a3).wf = true) :
  Calls Try.prog 6 #[.slice A0 l0.length c0, .slice A1 l1.length c1, .int .i64 a2, .int .i64 a3] w fun e w' => e = .returned (.bool true) ∧ Below w.heap.size w w' := by
 obtain ⟨k, h⟩ := P l0 l1 a2 a3 hg0 hg1 hg2 hg3
 refine (fullerlaw11_InferSizes.calls k (fun k_ => k_ < w.heap.size) _ _ l0 (fun k_ => k_ < w.heap.size) _ _ l1 a2 a3 true w (Kd.V_mk hc0 (Kd.C_F (Kd.heap_int .i64) hr0)) (Kd.V_mk hc1 (Kd.C_F (Kd.heap_int .i64) hr1)) h).mono ?_
 rintro e w' ⟨rfl, hd⟩
 exact ⟨rfl, hd⟩

end Go.Proofs.Ytalmgghhpgfgoaa.A
