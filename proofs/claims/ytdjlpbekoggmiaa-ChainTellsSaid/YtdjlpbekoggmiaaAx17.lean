/- Lean functions that answer as the Go functions do, and the proofs that they do; no conditions. Written by this session's own driver: a scratch copy of the kit's print with the session's additions (wip/xprint). -/
import Derived.Test.YtdjlpbekoggmiaaAx0
import Derived.Test.YtdjlpbekoggmiaaAx10
import Derived.Test.YtdjlpbekoggmiaaAx14
import Derived.Test.YtdjlpbekoggmiaaAx15
namespace Go.Proofs.Ytdjlpbekoggmiaa.A
open Go.RowKit Go.Proofs.YtdjlpbekoggmiaaW.PrintWords Go.Proofs.YtdjlpbekoggmiaaW.PrintLast Go.Proofs.YtdjlpbekoggmiaaW.PrintMore
attribute [local go_sem] max2_int min2_int max_two min_two max_three min_three max_four min_four   -- for this text's walks alone
set_option linter.unusedVariables false
set_option linter.unusedSimpArgs false

def L14_0 : Array Bool := #[false, false, false, false, false, false, false, false, false, false, false, false, false, false]
def L14_1 : Array Bool := #[true, false, false, false, false, false, false, false, false, false, false, false, false, false]
def L14_2 : Array Bool := #[true, true, false, false, false, false, false, false, false, false, false, false, false, false]
def L14_3 : Array Bool := #[true, true, true, false, false, false, false, false, false, false, false, false, false, false]
def L14_4 : Array Bool := #[true, true, true, true, false, false, false, false, false, false, false, false, false, false]
def L14_5 : Array Bool := #[true, true, true, true, true, false, false, false, false, false, false, false, false, false]
def L14_6 : Array Bool := #[true, true, true, true, true, true, false, false, false, false, false, false, false, false]
def L14_7 : Array Bool := #[true, true, true, true, true, true, true, false, false, false, false, false, false, false]
def L14_8 : Array Bool := #[true, true, true, true, true, true, true, true, false, false, false, false, false, false]
def L14_9 : Array Bool := #[true, true, true, true, true, true, true, true, false, true, false, false, false, false]
def L14_10 : Array Bool := #[true, true, true, true, true, true, true, true, true, true, false, false, false, false]
def L14_11 : Array Bool := #[true, true, true, true, true, true, true, true, true, true, true, false, false, false]
def L14_12 : Array Bool := #[true, true, true, true, true, true, true, true, true, true, true, true, false, false]
def L14_13 : Array Bool := #[true, true, true, true, true, true, true, true, true, true, true, true, true, false]
def L14_14 : Array Bool := #[true, true, true, true, true, true, true, true, true, true, true, true, true, true]
def L14_15 : Array Bool := #[false, false, false, false, false, false, false, false, false, false]
def L14_16 : Array Bool := #[false, true, false, false, false, false, false, false, false, false]
def L14_17 : Array Bool := #[false, true, false, true, false, false, false, false, false, false]
def L14_18 : Array Bool := #[false, true, false, true, true, false, false, false, false, false]
def L14_19 : Array Bool := #[false, true, false, true, true, true, false, false, false, false]
def L14_20 : Array Bool := #[true, true, true, true, true, true, true, false, false, false]
def L14_21 : Array Bool := #[true, true, false, true, true, true, false, false, false, false]
def L14_22 : Array Bool := #[false, true, false, true, true, true, true, false, false, false]
def L14_23 : Array Bool := #[true, true, true, true, true, true, false, false, false, false]
def L14_24 : Array Bool := #[true, true, false, true, true, true, true, false, false, false]
def L14_25 : Array Bool := #[true, true, true, true, true, true, true, true, false, false]
def L14_26 : Array Bool := #[true, true, true, true, true, true, true, true, true, false]
def L14_27 : Array Bool := #[true, true, true, true, true, true, true, true, true, true]
/-! ### fullerref17_Put: function 14 -/
mutual
def fullerref17_Put.j0 : Nat → List (S41) → Int → Bool → List Int → List Int → Option ((List (S41)) × Int)
 | 0, _, _, _, _, _ => none
 | k + 1, x0, x1, x33, x252000, x252001 => if x33 = true then (some (x0, 170)) else ((fullerref03_Check.f k x252000 x252001).bind fun t254 => (if t254 = true then (if (x0.length : Int) > 0 then (if 0 < (x0.length : Int) then ((fullerref02_Same.f k ((rd_T41 x0 0).f1.f0) x252000).bind fun t256 => (fullerref17_Put.j1 k x0 x1 (!t256) x252000 x252001)) else (none)) else (fullerref17_Put.j1 k x0 x1 false x252000 x252001)) else (some (x0, 30))))
def fullerref17_Put.j1 : Nat → List (S41) → Int → Bool → List Int → List Int → Option ((List (S41)) × Int)
 | 0, _, _, _, _, _ => none
 | k + 1, x0, x1, x53, x252000, x252001 => if x53 = true then (some (x0, 20)) else (if (x0.length : Int) = 16 then (some (x0, 171)) else ((some (([] : List (S41)) : List (S41))).bind fun y257 => (if y257.length + x0.length < 2513169434916 then ((some (y257 ++ x0 : List (S41))).bind fun y260 => ((some (([(⟨x1, (⟨x252000, x252001⟩ : S25)⟩ : S41)] : List (S41)) : List (S41))).bind fun y263 => (if y260.length + y263.length < 2513169434916 then (some ((y260 ++ y263), 0)) else (none)))) else (none))))
end
def fullerref17_Put.f (k : Nat) (l0 : List (S41)) (a1 : Int) (l2_0 : List Int) (l2_1 : List Int) : Option ((List (S41)) × Int) := (fullerref17_Check.f k l0).bind fun t252 => (if t252 = true then (if a1 < 0 then (fullerref17_Put.j0 k l0 a1 true l2_0 l2_1) else (if (l0.length : Int) > 0 then (if 0 ≤ (wrap64 ((l0.length : Int) - 1)) then (if (wrap64 ((l0.length : Int) - 1)) < (l0.length : Int) then (fullerref17_Put.j0 k l0 a1 (decide (a1 ≤ ((rd_T41 l0 (wrap64 ((l0.length : Int) - 1))).f0))) l2_0 l2_1) else (none)) else (none)) else (fullerref17_Put.j0 k l0 a1 false l2_0 l2_1))) else (fullerref17_Put.j0 k l0 a1 true l2_0 l2_1))
theorem fullerref17_Put.mono_l : ∀ k, (∀ y0 y1 y2 y3 y4, LeO (fullerref17_Put.j0 k y0 y1 y2 y3 y4) (fullerref17_Put.j0 (k + 1) y0 y1 y2 y3 y4)) ∧ (∀ y0 y1 y2 y3 y4, LeO (fullerref17_Put.j1 k y0 y1 y2 y3 y4) (fullerref17_Put.j1 (k + 1) y0 y1 y2 y3 y4))
 | 0 => ⟨fun _ _ _ _ _ r h => by simp [fullerref17_Put.j0] at h, fun _ _ _ _ _ r h => by simp [fullerref17_Put.j1] at h⟩
 | k + 1 => by
  obtain ⟨ih0, ih1⟩ := fullerref17_Put.mono_l k
  refine ⟨?_, ?_⟩
  ·intro y0 y1 y2 y3 y4
   unfold fullerref17_Put.j0
   repeat' first
   | (with_reducible exact ih0 _ _ _ _ _)
   | (with_reducible exact ih1 _ _ _ _ _)
   | (with_reducible exact fullerref02_Same.mono _ _ _)
   | (with_reducible exact fullerref03_Check.mono _ _ _)
   | (with_reducible exact fullerref17_Check.mono _ _)
   | (with_reducible exact LeO.refl _)
   | (with_reducible exact LeO.none _)
   | (with_reducible refine LeO.ite ?_ ?_)
   | (with_reducible refine LeO.bind ?_ (fun _ => ?_))
   | exact ih0 _ _ _ _ _
   | exact ih1 _ _ _ _ _
   | exact fullerref02_Same.mono _ _ _
   | exact fullerref03_Check.mono _ _ _
   | exact fullerref17_Check.mono _ _
   | exact LeO.none _
   | refine LeO.ite ?_ ?_
   | refine LeO.bind ?_ (fun _ => ?_)
  ·intro y0 y1 y2 y3 y4
   unfold fullerref17_Put.j1
   repeat' first
   | (with_reducible exact ih0 _ _ _ _ _)
   | (with_reducible exact ih1 _ _ _ _ _)
   | (with_reducible exact fullerref02_Same.mono _ _ _)
   | (with_reducible exact fullerref03_Check.mono _ _ _)
   | (with_reducible exact fullerref17_Check.mono _ _)
   | (with_reducible exact LeO.refl _)
   | (with_reducible exact LeO.none _)
   | (with_reducible refine LeO.ite ?_ ?_)
   | (with_reducible refine LeO.bind ?_ (fun _ => ?_))
   | exact ih0 _ _ _ _ _
   | exact ih1 _ _ _ _ _
   | exact fullerref02_Same.mono _ _ _
   | exact fullerref03_Check.mono _ _ _
   | exact fullerref17_Check.mono _ _
   | exact LeO.none _
   | refine LeO.ite ?_ ?_
   | refine LeO.bind ?_ (fun _ => ?_)
theorem fullerref17_Put.mono : ∀ a0 a1 a2 a3 k, LeO (fullerref17_Put.f k a0 a1 a2 a3) (fullerref17_Put.f (k + 1) a0 a1 a2 a3) := by
 intro a0 a1 a2 a3 k
 obtain ⟨ih0, ih1⟩ := fullerref17_Put.mono_l k
 unfold fullerref17_Put.f
 repeat' first
   | (with_reducible exact ih0 _ _ _ _ _)
   | (with_reducible exact ih1 _ _ _ _ _)
   | (with_reducible exact fullerref02_Same.mono _ _ _)
   | (with_reducible exact fullerref03_Check.mono _ _ _)
   | (with_reducible exact fullerref17_Check.mono _ _)
   | (with_reducible exact LeO.refl _)
   | (with_reducible exact LeO.none _)
   | (with_reducible refine LeO.ite ?_ ?_)
   | (with_reducible refine LeO.bind ?_ (fun _ => ?_))
   | exact ih0 _ _ _ _ _
   | exact ih1 _ _ _ _ _
   | exact fullerref02_Same.mono _ _ _
   | exact fullerref03_Check.mono _ _ _
   | exact fullerref17_Check.mono _ _
   | exact LeO.none _
   | refine LeO.ite ?_ ?_
   | refine LeO.bind ?_ (fun _ => ?_)
def fullerref17_Put.T7 : Bool × List (List Nat × List Nat) := (true, [([], []), ([0], [0]), ([1], [1]), ([2], [2]), ([3], [3]), ([4, 3], [3, 4]), ([5, 3], [3, 5]), ([6, 3], [3, 6]), ([7, 3], [3, 7]), ([3], [3]), ([9, 3], [3, 9]), ([8, 10, 3, 3], [3, 8, 10]), ([11, 3], [3, 11]), ([3, 12], [3, 12])])
def fullerref17_Put.B7 : List Nat := [0, 1, 3, 7, 15, 31, 63, 127, 255, 15, 527, 2047, 4095, 8191]
theorem fullerref17_Put.tab7 : rtab .any (opsOf Try.f14 7) = fullerref17_Put.T7 := by kernel_rfl
theorem fullerref17_Put.bits7 : waitsOk fullerref17_Put.T7.2 fullerref17_Put.B7 = true := by kernel_rfl
def fullerref17_Put.T11 : Bool × List (List Nat × List Nat) := (true, [([], []), ([], []), ([0, 1], [0, 1]), ([], []), ([], []), ([3, 4], [3, 4]), ([5], [5]), ([2, 6, 2], [2, 6]), ([7, 7, 0, 1, 2, 3, 4, 5, 6, 7], [7]), ([8, 0, 1, 2, 3, 4, 5, 6, 7, 8], [])])
def fullerref17_Put.B11 : List Nat := [0, 0, 3, 0, 0, 24, 56, 127, 255, 511]
theorem fullerref17_Put.tab11 : rtab .any (opsOf Try.f14 11) = fullerref17_Put.T11 := by kernel_rfl
theorem fullerref17_Put.bits11 : waitsOk fullerref17_Put.T11.2 fullerref17_Put.B11 = true := by kernel_rfl
set_option maxHeartbeats 8000000 in
set_option maxRecDepth 100000 in
theorem fullerref17_Put.calls (k : Nat) (P0_ : Nat → Prop) (A0 : Option Addr) (c0 : Nat) (l0 : List (S41)) (a1 : Int) (P2_0_ : Nat → Prop) (A2_0 : Option Addr) (c2_0 : Nat) (l2_0 : List Int) (P2_1_ : Nat → Prop) (A2_1 : Option Addr) (c2_1 : Nat) (l2_1 : List Int) (r1 : List (S41)) (r2 : Int) (w : World) (hs0 : Kd.V k41 41 w w.heap.size (fun k_ => P0_ k_) (.slice A0 l0.length c0) l0) (hs2_0 : Kd.V (Kd.int .i64) 3 w w.heap.size (fun k_ => P2_0_ k_) (.slice A2_0 l2_0.length c2_0) l2_0) (hs2_1 : Kd.V (Kd.int .i64) 3 w w.heap.size (fun k_ => P2_1_ k_) (.slice A2_1 l2_1.length c2_1) l2_1) (h : fullerref17_Put.f k l0 a1 l2_0 l2_1 = some (r1, r2)) :
  Calls Try.prog 14 #[.slice A0 l0.length c0, .int .i64 a1, .agg #[.slice A2_0 l2_0.length c2_0, .slice A2_1 l2_1.length c2_1]] w fun e w' => ∃ v0_ : Value, e = .returned (.tuple #[v0_, .int .i64 r2]) ∧ Kd.V k41 41 w' w.heap.size (fun k_ => ((P0_ k_ ∨ P2_0_ k_ ∨ P2_1_ k_) ∨ w.heap.size ≤ k_)) v0_ r1 ∧ Below w.heap.size w w' := by
 have hu25 := Try.underlying25
 have hu41 := Try.underlying41
 have HO0 := Aside0.mk (show Kd.V k41 41 w w.heap.size (fun k_ => ((P0_ k_ ∨ P2_0_ k_ ∨ P2_1_ k_) ∨ w.heap.size ≤ k_)) (.slice A0 l0.length c0) l0 from Kd.V_mono hs0 (fun k_ hk => .inl (.inl hk)))
 have HO2_0 := Aside0.mk (show Kd.V (Kd.int .i64) 3 w w.heap.size (fun k_ => ((P0_ k_ ∨ P2_0_ k_ ∨ P2_1_ k_) ∨ w.heap.size ≤ k_)) (.slice A2_0 l2_0.length c2_0) l2_0 from Kd.V_mono hs2_0 (fun k_ hk => .inl (.inr (.inl hk))))
 have HO2_1 := Aside0.mk (show Kd.V (Kd.int .i64) 3 w w.heap.size (fun k_ => ((P0_ k_ ∨ P2_0_ k_ ∨ P2_1_ k_) ∨ w.heap.size ≤ k_)) (.slice A2_1 l2_1.length c2_1) l2_1 from Kd.V_mono hs2_1 (fun k_ hk => .inl (.inr (.inr hk))))
 have HB := Aside0.mk (Below.refl w.heap.size w)
 have H : ((fullerref17_Check.f k l0).bind fun t252 => (if t252 = true then (if a1 < 0 then (fullerref17_Put.j0 k l0 a1 true l2_0 l2_1) else (if (l0.length : Int) > 0 then (if 0 ≤ (wrap64 ((l0.length : Int) - 1)) then (if (wrap64 ((l0.length : Int) - 1)) < (l0.length : Int) then (fullerref17_Put.j0 k l0 a1 (decide (a1 ≤ ((rd_T41 l0 (wrap64 ((l0.length : Int) - 1))).f0))) l2_0 l2_1) else (none)) else (none)) else (fullerref17_Put.j0 k l0 a1 false l2_0 l2_1))) else (fullerref17_Put.j0 k l0 a1 true l2_0 l2_1))) = some (r1, r2) := h
 clear h
 replace H := Option.bind_eq_some_iff.mp H
 obtain ⟨t252, A40, H⟩ := H
 replace H : (if t252 = true then (if a1 < 0 then (fullerref17_Put.j0 k l0 a1 true l2_0 l2_1) else (if (l0.length : Int) > 0 then (if 0 ≤ (wrap64 ((l0.length : Int) - 1)) then (if (wrap64 ((l0.length : Int) - 1)) < (l0.length : Int) then (fullerref17_Put.j0 k l0 a1 (decide (a1 ≤ ((rd_T41 l0 (wrap64 ((l0.length : Int) - 1))).f0))) l2_0 l2_1) else (none)) else (none)) else (fullerref17_Put.j0 k l0 a1 false l2_0 l2_1))) else (fullerref17_Put.j0 k l0 a1 true l2_0 l2_1)) = some (r1, r2) := H
 have A4 := Aside0.mk A40
 clear A40
 have HC5 := Aside0.mk H
 clear H
 go_enter Try.func14, Try.ntmps14
 go_upto_region 2 with (first | ((with_reducible refine gate_dst (N := 5) rfl ?_); (try (refine gate_guard (by rfl) ?_; dsimp only)); refine box_event ?hg (N := 5) ?hd (cs := #[.slice A2_0 l2_0.length c2_0, .slice A2_1 l2_1.length c2_1]) (t := 25) ?hr ?_; (case hd => rfl); (case hg => rfl); (case hr => first | (go_simp; done) | (go_simp; rfl)); intro gb251 hg w6 hbox hb; have n0_ := Aside0.mk (Kd.V_below (Kd.V_elderB (mvV_ HO0.out) gb251 (Nat.le_of_eq hg.symm)) hb); have n1_ := Aside0.mk (Kd.V_below (Kd.V_elderB (mvV_ HO2_0.out) gb251 (Nat.le_of_eq hg.symm)) hb); have n2_ := Aside0.mk (Kd.V_below (Kd.V_elderB (mvV_ HO2_1.out) gb251 (Nat.le_of_eq hg.symm)) hb); have n3_ := Aside0.mk (below_step (bq0_ HB.out) hb); have n4_ := Aside0.mk (hbox); have n5_ := Aside0.mk ((by rw [hg]; exact (below_size (bq0_ HB.out)) : w.heap.size ≤ gb251)); have n6_ := Aside0.mk ((by rw [hg]; exact (below_size (bq0_ HB.out)) : w.heap.size ≤ gb251)); clear HO0; clear HO2_0; clear HO2_1; clear HB; have HO0 := n0_; have HO2_0 := n1_; have HO2_1 := n2_; have HB := n3_; have BK251 := n4_; have GW251 := n5_; have GE251 := n6_; clear n0_ n1_ n2_ n3_ n4_ n5_ n6_; clear hb hbox hg) | ((with_reducible refine gate_callee (f := 18) rfl ?_); refine goesL_ (some 11) rfl rfl Try.func18 (by kernel_rfl) rfl #[.slice A0 l0.length c0] rfl (by (try simp only [List.map_toArray, List.map_cons, List.map_nil]); first | done | rfl | (simp only [List.length_drop, List.length_take]; rfl)) ?_; (with_reducible refine (fullerref17_Check.calls k _ _ l0 t252 _ ?side1 ?side2 A4.out).mono ?_); (case side1 => repeat (first | exact (Kd.V_reads' HO0.out).2.2 | (with_reducible refine Kd.C_alloc ?_ _) | (with_reducible refine Kd.C_drewN ?_ _) | (with_reducible refine Kd.C_drew ?_))); (case side2 => exact (Kd.V_reads' HO0.out).2.1); rintro e w7 ⟨rfl, hb⟩; refine ⟨_, rfl, ?_⟩; have n0_ := Aside0.mk (Kd.V_below (mvV_ HO0.out) hb); have n1_ := Aside0.mk (Kd.V_below (mvV_ HO2_0.out) hb); have n2_ := Aside0.mk (Kd.V_below (mvV_ HO2_1.out) hb); have n3_ := Aside0.mk (blk_below (g := gb251) (o := .cells #[.slice A2_0 l2_0.length c2_0, .slice A2_1 l2_1.length c2_1] 25 (0, 0)) (mvK_ BK251.out) hb); have n4_ := Aside0.mk (below_step (bq1_ HB.out GE251.out) hb); clear HO0; clear HO2_0; clear HO2_1; clear BK251; clear HB; have HO0 := n0_; have HO2_0 := n1_; have HO2_1 := n2_; have BK251 := n3_; have HB := n4_; clear n0_ n1_ n2_ n3_ n4_; (try clear hb); (try clear hb2); (try clear hk); (try clear hi)))
 (try simp only [Act.put, sA_, sB_, sC_])
 go_cut [33] (fun v33 wc => ∃ (kq : Nat) (x33_4 : Bool), v33 = .bool x33_4 ∧ Aside0 (fullerref17_Put.j0 kq l0 a1 x33_4 l2_0 l2_1 = some (r1, r2)) ∧ Aside0 (kq ≤ k) ∧ Aside0 (Kd.V k41 41 wc w.heap.size (fun k_ => ((P0_ k_ ∨ P2_0_ k_ ∨ P2_1_ k_) ∨ w.heap.size ≤ k_) ∧ k_ ≠ gb251) (.slice A0 l0.length c0) l0) ∧ Aside0 (Kd.V (Kd.int .i64) 3 wc w.heap.size (fun k_ => ((P0_ k_ ∨ P2_0_ k_ ∨ P2_1_ k_) ∨ w.heap.size ≤ k_) ∧ k_ ≠ gb251) (.slice A2_0 l2_0.length c2_0) l2_0) ∧ Aside0 (Kd.V (Kd.int .i64) 3 wc w.heap.size (fun k_ => ((P0_ k_ ∨ P2_0_ k_ ∨ P2_1_ k_) ∨ w.heap.size ≤ k_) ∧ k_ ≠ gb251) (.slice A2_1 l2_1.length c2_1) l2_1) ∧ Aside0 (wc.heap[gb251]? = some (.cells #[(.slice A2_0 l2_0.length c2_0), (.slice A2_1 l2_1.length c2_1)] 25 (0, 0))) ∧ Aside0 (Below w.heap.size w wc))
 case first =>
  have H := HC5.out
  clear HC5
  by_cases c8 : t252 = true
  ·subst c8
   have H1 : (if a1 < 0 then (fullerref17_Put.j0 k l0 a1 true l2_0 l2_1) else (if (l0.length : Int) > 0 then (if 0 ≤ (wrap64 ((l0.length : Int) - 1)) then (if (wrap64 ((l0.length : Int) - 1)) < (l0.length : Int) then (fullerref17_Put.j0 k l0 a1 (decide (a1 ≤ ((rd_T41 l0 (wrap64 ((l0.length : Int) - 1))).f0))) l2_0 l2_1) else (none)) else (none)) else (fullerref17_Put.j0 k l0 a1 false l2_0 l2_1))) = some (r1, r2) := by rw [if_pos rfl] at H; exact H
   clear H
   have H := H1
   clear H1
   by_cases c9 : a1 < 0
   ·rw [if_pos c9] at H
    have c9b0 : decide (a1 < 0) = true := decide_eq_true c9
    clear c9
    (first | rw [c9b0] | (simp only [i64_w, i32_w]; rw [c9b0]) | skip)
    have H' := Aside0.mk H
    clear H
    go_wp2
    go_meet
    case rel => exact ⟨_, (true), (by first | rfl | (simp; done) | (simp [*]; done)), H', ⟨by first | omega | exact Nat.le_refl _⟩, ⟨by (with_reducible repeat (first | apply Kd.V_alloc | apply Kd.V_drewN | apply Kd.V_drew)); exact HO0.out⟩, ⟨by (with_reducible repeat (first | apply Kd.V_alloc | apply Kd.V_drewN | apply Kd.V_drew)); exact HO2_0.out⟩, ⟨by (with_reducible repeat (first | apply Kd.V_alloc | apply Kd.V_drewN | apply Kd.V_drew)); exact HO2_1.out⟩, ⟨by (with_reducible repeat (first | refine blk_drewN ?_ _ | refine blk_drew ?_ | refine blk_alloc ?_ _)); exact BK251.out⟩, ⟨by repeat (first | (with_reducible first | exact HB.out | apply below_alloc | apply pw_below_drewN | apply below_drew1 | refine below_set ?_ GE251.out) | exact HB.out)⟩⟩
   ·rw [if_neg c9] at H
    have c9b0 : decide (a1 < 0) = false := decide_eq_false c9
    clear c9
    (first | rw [c9b0] | (simp only [i64_w, i32_w]; rw [c9b0]) | skip)
    by_cases c10 : (l0.length : Int) > 0
    ·rw [if_pos c10] at H
     have c10b0 : decide (0 < (l0.length : Int)) = true := decide_eq_true c10
     have c10b1 : decide (0 < l0.length) = true := decide_eq_true (by omega)
     clear c10
     obtain ⟨ji11, hji11⟩ : ∃ j_ : Int, (wrap64 ((l0.length : Int) - 1)) = j_ := ⟨_, rfl⟩
     replace H : (if 0 ≤ (ji11) then (if (ji11) < (l0.length : Int) then (fullerref17_Put.j0 k l0 a1 (decide (a1 ≤ ((rd_T41 l0 (ji11)).f0))) l2_0 l2_1) else (none)) else (none)) = some (r1, r2) := by first | (rw [hji11] at H; exact H) | (simp only [hji11] at H ⊢; exact H)
     have hji11w : (IntKind.i64.wrap ((l0.length : Int) - 1)) = ji11 := (i64_w _).trans hji11
     by_cases c12 : 0 ≤ (ji11)
     ·rw [if_pos c12] at H
      have c12b0 : decide (0 ≤ (ji11)) = true := decide_eq_true c12
      clear c12
      by_cases c13 : (ji11) < (l0.length : Int)
      ·rw [if_pos c13] at H
       have c13b0 : decide ((ji11) < (l0.length : Int)) = true := decide_eq_true c13
       clear c13
       have H' := Aside0.mk H
       clear H
       have p253 : 0 ≤ ((ji11) : Int) := of_decide_eq_true (by first | (with_reducible assumption) | assumption)
       have q253 : (ji11) < (l0.length : Int) := of_decide_eq_true (by first | (with_reducible assumption) | assumption)
       obtain ⟨ad253, A253_1, c253_1, A253_2, c253_2, e253, hx253_0, hx253_1, hx253_2, hl253_1, hi253_1, hl253_2, hi253_2⟩ := at_T41 (Kd.V_reads' HO0.out).2.2 (ji11) p253 q253
       cases e253
       obtain ⟨ce253, hce253, hMe253, hcc253⟩ := Kd.V_get HO0.out z41 (ji11) p253 (by first | exact q253 | exact of_decide_eq_true (by first | (with_reducible assumption) | assumption) | (have e_ := (Kd.V_reads' HO0.out).1; omega))
       obtain ⟨ua253_1, uc253_1, ua253_2, uc253_2, rfl, ul253_1, ge253_1, ul253_2, ge253_2⟩ := k41_openF hMe253
       have hv253_1 := hcc253 1 _ rfl
       rw [add_field _ _ 1 (by omega)] at hv253_1
       replace hv253_1 := Option.some.inj (hv253_1.symm.trans hx253_1)
       injection hv253_1 with hva_ hvn_ hvc_
       rw [hva_] at ge253_1
       rw [hvc_] at ul253_1
       have HL253_1 := Aside0.mk (show Kd.V (Kd.int .i64) 3 _ w.heap.size _ _ ((rd_T41 l0 (ji11)).f1.f0) from Kd.V_mk ul253_1 ge253_1)
       clear hva_ hvn_ hvc_ ge253_1 ul253_1
       have hv253_2 := hcc253 2 _ rfl
       rw [add_field _ _ 2 (by omega)] at hv253_2
       replace hv253_2 := Option.some.inj (hv253_2.symm.trans hx253_2)
       injection hv253_2 with hva_ hvn_ hvc_
       rw [hva_] at ge253_2
       rw [hvc_] at ul253_2
       have HL253_2 := Aside0.mk (show Kd.V (Kd.int .i64) 3 _ w.heap.size _ _ ((rd_T41 l0 (ji11)).f1.f1) from Kd.V_mk ul253_2 ge253_2)
       clear hva_ hvn_ hvc_ ge253_2 ul253_2 hcc253 hce253
       have HR253_1 := Aside0.mk hi253_1
       have HC253_1 := Aside0.mk hl253_1
       clear hi253_1 hl253_1
       have HR253_2 := Aside0.mk hi253_2
       have HC253_2 := Aside0.mk hl253_2
       clear hi253_2 hl253_2
       replace p253 := eq_true p253
       replace q253 := eq_true q253
       go_wp2
       go_meet
       case rel => exact ⟨_, (decide (a1 ≤ ((rd_T41 l0 (ji11)).f0))), (by first | rfl | (simp; done) | (simp only [← hji11] <;> (first | rfl | simp)) | (simp [*]; done)), H', ⟨by first | omega | exact Nat.le_refl _⟩, ⟨by (with_reducible repeat (first | apply Kd.V_alloc | apply Kd.V_drewN | apply Kd.V_drew)); exact HO0.out⟩, ⟨by (with_reducible repeat (first | apply Kd.V_alloc | apply Kd.V_drewN | apply Kd.V_drew)); exact HO2_0.out⟩, ⟨by (with_reducible repeat (first | apply Kd.V_alloc | apply Kd.V_drewN | apply Kd.V_drew)); exact HO2_1.out⟩, ⟨by (with_reducible repeat (first | refine blk_drewN ?_ _ | refine blk_drew ?_ | refine blk_alloc ?_ _)); exact BK251.out⟩, ⟨by repeat (first | (with_reducible first | exact HB.out | apply below_alloc | apply pw_below_drewN | apply below_drew1 | refine below_set ?_ GE251.out) | exact HB.out)⟩⟩
      ·rw [if_neg c13] at H
       exact absurd H (by simp)
     ·rw [if_neg c12] at H
      exact absurd H (by simp)
    ·rw [if_neg c10] at H
     have c10b0 : decide (0 < (l0.length : Int)) = false := decide_eq_false c10
     have c10b1 : decide (0 < l0.length) = false := decide_eq_false (by omega)
     clear c10
     have H' := Aside0.mk H
     clear H
     go_wp2
     go_meet
     case rel => exact ⟨_, (false), (by first | rfl | (simp; done) | (simp [*]; done)), H', ⟨by first | omega | exact Nat.le_refl _⟩, ⟨by (with_reducible repeat (first | apply Kd.V_alloc | apply Kd.V_drewN | apply Kd.V_drew)); exact HO0.out⟩, ⟨by (with_reducible repeat (first | apply Kd.V_alloc | apply Kd.V_drewN | apply Kd.V_drew)); exact HO2_0.out⟩, ⟨by (with_reducible repeat (first | apply Kd.V_alloc | apply Kd.V_drewN | apply Kd.V_drew)); exact HO2_1.out⟩, ⟨by (with_reducible repeat (first | refine blk_drewN ?_ _ | refine blk_drew ?_ | refine blk_alloc ?_ _)); exact BK251.out⟩, ⟨by repeat (first | (with_reducible first | exact HB.out | apply below_alloc | apply pw_below_drewN | apply below_drew1 | refine below_set ?_ GE251.out) | exact HB.out)⟩⟩
  ·replace c8 := Bool.eq_false_iff.mpr c8
   subst c8
   have H1 : (fullerref17_Put.j0 k l0 a1 true l2_0 l2_1) = some (r1, r2) := by rw [if_neg (show ¬ (false = true) by decide)] at H; exact H
   clear H
   have H := H1
   clear H1
   have H' := Aside0.mk H
   clear H
   go_wp2
   go_meet
   case rel => exact ⟨_, (true), (by first | rfl | (simp; done) | (simp [*]; done)), H', ⟨by first | omega | exact Nat.le_refl _⟩, ⟨by (with_reducible repeat (first | apply Kd.V_alloc | apply Kd.V_drewN | apply Kd.V_drew)); exact HO0.out⟩, ⟨by (with_reducible repeat (first | apply Kd.V_alloc | apply Kd.V_drewN | apply Kd.V_drew)); exact HO2_0.out⟩, ⟨by (with_reducible repeat (first | apply Kd.V_alloc | apply Kd.V_drewN | apply Kd.V_drew)); exact HO2_1.out⟩, ⟨by (with_reducible repeat (first | refine blk_drewN ?_ _ | refine blk_drew ?_ | refine blk_alloc ?_ _)); exact BK251.out⟩, ⟨by repeat (first | (with_reducible first | exact HB.out | apply below_alloc | apply pw_below_drewN | apply below_drew1 | refine below_set ?_ GE251.out) | exact HB.out)⟩⟩
 case rest =>
  clear HC5
  try clear c1
  try clear c2
  try clear p2
  try clear q2
  try clear hx2
  try clear p6
  try clear c8
  try clear c9
  try clear c9b0
  try clear c10
  try clear c10b0
  try clear c10b1
  try clear c12
  try clear c12b0
  try clear c13
  try clear c13b0
  try clear hx253_0
  try clear hx253_1
  try clear hx253_2
  try clear p253
  try clear q253
  obtain ⟨kq, x33_4, rfl, HA, HJ4, HO_0, HO_252000, HO_252001, BK251, HB⟩ := hcut
  cases kq with
  | zero => exact absurd HA.out (by simp [fullerref17_Put.j0])
  | succ kj4 =>
   have H := HA.out
   clear HA
   simp only [fullerref17_Put.j0] at H
   by_cases c14 : x33_4 = true
   ·subst c14
    have H1 : (some (l0, 170)) = some (r1, r2) := by rw [if_pos rfl] at H; exact H
    clear H
    have H := H1
    clear H1
    simp only [Option.some.injEq, Prod.mk.injEq] at H
    obtain ⟨rfl, rfl⟩ := H
    go_wp2
    go_ret2
    exact ⟨_, by first | rfl | (simp [errW_none, errW_some] <;> rfl) | (simp [*, errW_none, errW_some] <;> rfl), by (with_reducible repeat (first | apply Kd.V_alloc | apply Kd.V_drewN | apply Kd.V_drew)); exact Kd.V_mono HO_0.out (fun _ hk => hk.1), by repeat (first | (with_reducible first | exact HB.out | apply below_alloc | apply pw_below_drewN | apply below_drew1 | refine below_set ?_ GE251.out) | exact HB.out)⟩
   ·replace c14 := Bool.eq_false_iff.mpr c14
    subst c14
    have H1 : ((fullerref03_Check.f kj4 l2_0 l2_1).bind fun t254 => (if t254 = true then (if (l0.length : Int) > 0 then (if 0 < (l0.length : Int) then ((fullerref02_Same.f kj4 ((rd_T41 l0 0).f1.f0) l2_0).bind fun t256 => (fullerref17_Put.j1 kj4 l0 a1 (!t256) l2_0 l2_1)) else (none)) else (fullerref17_Put.j1 kj4 l0 a1 false l2_0 l2_1)) else (some (l0, 30)))) = some (r1, r2) := by rw [if_neg (show ¬ (false = true) by decide)] at H; exact H
    clear H
    have H := H1
    clear H1
    replace H := Option.bind_eq_some_iff.mp H
    obtain ⟨t254, A150, H⟩ := H
    replace H : (if t254 = true then (if (l0.length : Int) > 0 then (if 0 < (l0.length : Int) then ((fullerref02_Same.f kj4 ((rd_T41 l0 0).f1.f0) l2_0).bind fun t256 => (fullerref17_Put.j1 kj4 l0 a1 (!t256) l2_0 l2_1)) else (none)) else (fullerref17_Put.j1 kj4 l0 a1 false l2_0 l2_1)) else (some (l0, 30))) = some (r1, r2) := H
    have A15 := Aside0.mk A150
    clear A150
    by_cases c16 : t254 = true
    ·subst c16
     have H1 : (if (l0.length : Int) > 0 then (if 0 < (l0.length : Int) then ((fullerref02_Same.f kj4 ((rd_T41 l0 0).f1.f0) l2_0).bind fun t256 => (fullerref17_Put.j1 kj4 l0 a1 (!t256) l2_0 l2_1)) else (none)) else (fullerref17_Put.j1 kj4 l0 a1 false l2_0 l2_1)) = some (r1, r2) := by rw [if_pos rfl] at H; exact H
     clear H
     have H := H1
     clear H1
     have HC17 := Aside0.mk H
     clear H
     have hcz18_0 : wc.cell? ⟨gb251, 0, none⟩ = some (.slice A2_0 l2_0.length c2_0) := (blk_cell BK251.out 0).trans rfl
     have hcz18_1 : wc.cell? ⟨gb251, 1, none⟩ = some (.slice A2_1 l2_1.length c2_1) := (blk_cell BK251.out 1).trans rfl
     have hfz18_0 := blk_frozen BK251.out 0
     have hfz18_1 := blk_frozen BK251.out 1
     go_upto_region 7 with (first | ((with_reducible refine gate_callee (f := 30) rfl ?_); refine goesL_ (some 36) rfl rfl Try.func30 (by kernel_rfl) rfl #[.agg #[.slice A2_0 l2_0.length c2_0, .slice A2_1 l2_1.length c2_1]] rfl (by (try simp only [List.map_toArray, List.map_cons, List.map_nil]); first | done | rfl | (simp only [List.length_drop, List.length_take]; rfl)) ?_; (with_reducible refine (fullerref03_Check.calls kj4 _ _ l2_0 _ _ l2_1 true _ ?side1 ?side2 ?side3 ?side4 A15.out).mono ?_); (case side1 => repeat (first | exact (Kd.V_reads' HO_252000.out).2.2 | (with_reducible refine Kd.C_alloc ?_ _) | (with_reducible refine Kd.C_drewN ?_ _) | (with_reducible refine Kd.C_drew ?_))); (case side2 => exact (Kd.V_reads' HO_252000.out).2.1); (case side3 => repeat (first | exact (Kd.V_reads' HO_252001.out).2.2 | (with_reducible refine Kd.C_alloc ?_ _) | (with_reducible refine Kd.C_drewN ?_ _) | (with_reducible refine Kd.C_drew ?_))); (case side4 => exact (Kd.V_reads' HO_252001.out).2.1); rintro e w19 ⟨rfl, hb⟩; refine ⟨_, rfl, ?_⟩; have n0_ := Aside0.mk (Kd.V_below (mvV_ HO_0.out) hb); have n1_ := Aside0.mk (Kd.V_below (mvV_ HO_252000.out) hb); have n2_ := Aside0.mk (Kd.V_below (mvV_ HO_252001.out) hb); have n3_ := Aside0.mk (blk_below (g := gb251) (o := .cells #[.slice A2_0 l2_0.length c2_0, .slice A2_1 l2_1.length c2_1] 25 (0, 0)) (mvK_ BK251.out) hb); have n4_ := Aside0.mk (below_step (bq1_ HB.out GE251.out) hb); clear HO_0; clear HO_252000; clear HO_252001; clear BK251; clear HB; have HO_0 := n0_; have HO_252000 := n1_; have HO_252001 := n2_; have BK251 := n3_; have HB := n4_; clear n0_ n1_ n2_ n3_ n4_; (try clear hb); (try clear hb2); (try clear hk); (try clear hi)))
     (try simp only [Act.put, sA_, sB_, sC_])
     go_cut [53] (fun v53 wc => ∃ (kq : Nat) (x53_16 : Bool), v53 = .bool x53_16 ∧ Aside0 (fullerref17_Put.j1 kq l0 a1 x53_16 l2_0 l2_1 = some (r1, r2)) ∧ Aside0 (kq ≤ kj4) ∧ Aside0 (Kd.V k41 41 wc w.heap.size (fun k_ => ((P0_ k_ ∨ P2_0_ k_ ∨ P2_1_ k_) ∨ w.heap.size ≤ k_) ∧ k_ ≠ gb251) (.slice A0 l0.length c0) l0) ∧ Aside0 (Kd.V (Kd.int .i64) 3 wc w.heap.size (fun k_ => ((P0_ k_ ∨ P2_0_ k_ ∨ P2_1_ k_) ∨ w.heap.size ≤ k_) ∧ k_ ≠ gb251) (.slice A2_0 l2_0.length c2_0) l2_0) ∧ Aside0 (Kd.V (Kd.int .i64) 3 wc w.heap.size (fun k_ => ((P0_ k_ ∨ P2_0_ k_ ∨ P2_1_ k_) ∨ w.heap.size ≤ k_) ∧ k_ ≠ gb251) (.slice A2_1 l2_1.length c2_1) l2_1) ∧ Aside0 (wc.heap[gb251]? = some (.cells #[(.slice A2_0 l2_0.length c2_0), (.slice A2_1 l2_1.length c2_1)] 25 (0, 0))) ∧ Aside0 (Below w.heap.size w wc))
     case first =>
      have H := HC17.out
      clear HC17
      by_cases c20 : (l0.length : Int) > 0
      ·rw [if_pos c20] at H
       have c20b0 : decide (0 < (l0.length : Int)) = true := decide_eq_true c20
       have c20b1 : decide (0 < l0.length) = true := decide_eq_true (by omega)
       clear c20
       (first | rw [c20b0] | (simp only [i64_w, i32_w]; rw [c20b0]) | skip)
       by_cases c21 : 0 < (l0.length : Int)
       ·rw [if_pos c21] at H
        have c21b0 : decide (0 < (l0.length : Int)) = true := decide_eq_true c21
        have c21b1 : decide (0 < l0.length) = true := decide_eq_true (by omega)
        clear c21
        replace H := Option.bind_eq_some_iff.mp H
        obtain ⟨t256, A220, H⟩ := H
        replace H : (fullerref17_Put.j1 kj4 l0 a1 (!t256) l2_0 l2_1) = some (r1, r2) := H
        have A22 := Aside0.mk A220
        clear A220
        have H' := Aside0.mk H
        clear H
        try go_wp2
        have n0_ := Aside0.mk (Kd.V_drew HO_0.out)
        have n1_ := Aside0.mk (Kd.V_drew HO_252000.out)
        have n2_ := Aside0.mk (Kd.V_drew HO_252001.out)
        have n3_ := Aside0.mk (blk_drew BK251.out)
        have n4_ := Aside0.mk (below_drew1 HB.out)
        clear HO_0 HO_252000 HO_252001 BK251 HB
        have HO_0 := n0_
        have HO_252000 := n1_
        have HO_252001 := n2_
        have BK251 := n3_
        have HB := n4_
        clear n0_ n1_ n2_ n3_ n4_
        have p255 : 0 ≤ (0 : Int) := (by omega)
        have q255 : 0 < (l0.length : Int) := of_decide_eq_true (by first | (with_reducible assumption) | assumption)
        obtain ⟨ad255, A255_1, c255_1, A255_2, c255_2, e255, hx255_0, hx255_1, hx255_2, hl255_1, hi255_1, hl255_2, hi255_2⟩ := at_T41 (Kd.V_reads' HO_0.out).2.2 0 p255 q255
        cases e255
        obtain ⟨ce255, hce255, hMe255, hcc255⟩ := Kd.V_get HO_0.out z41 0 p255 (by first | exact q255 | exact of_decide_eq_true (by first | (with_reducible assumption) | assumption) | (have e_ := (Kd.V_reads' HO_0.out).1; omega))
        obtain ⟨ua255_1, uc255_1, ua255_2, uc255_2, rfl, ul255_1, ge255_1, ul255_2, ge255_2⟩ := k41_openF hMe255
        have hv255_1 := hcc255 1 _ rfl
        rw [add_field _ _ 1 (by omega)] at hv255_1
        replace hv255_1 := Option.some.inj (hv255_1.symm.trans hx255_1)
        injection hv255_1 with hva_ hvn_ hvc_
        rw [hva_] at ge255_1
        rw [hvc_] at ul255_1
        have HL255_1 := Aside0.mk (show Kd.V (Kd.int .i64) 3 _ w.heap.size _ _ ((rd_T41 l0 0).f1.f0) from Kd.V_mk ul255_1 ge255_1)
        clear hva_ hvn_ hvc_ ge255_1 ul255_1
        have hv255_2 := hcc255 2 _ rfl
        rw [add_field _ _ 2 (by omega)] at hv255_2
        replace hv255_2 := Option.some.inj (hv255_2.symm.trans hx255_2)
        injection hv255_2 with hva_ hvn_ hvc_
        rw [hva_] at ge255_2
        rw [hvc_] at ul255_2
        have HL255_2 := Aside0.mk (show Kd.V (Kd.int .i64) 3 _ w.heap.size _ _ ((rd_T41 l0 0).f1.f1) from Kd.V_mk ul255_2 ge255_2)
        clear hva_ hvn_ hvc_ ge255_2 ul255_2 hcc255 hce255
        have qi255 : (0 < l0.length) = True := eq_true (by omega)
        (try rw [show ((0 : Int)).toNat = 0 from rfl] at hx255_0)
        (try rw [show 0 * 3 = 0 from rfl] at hx255_0)
        (try rw [Addr.add_zero'] at hx255_0)
        (try rw [show ((0 : Int)).toNat = 0 from rfl] at hx255_1)
        (try rw [show 0 * 3 = 0 from rfl] at hx255_1)
        (try rw [Addr.add_zero'] at hx255_1)
        (try rw [show ((0 : Int)).toNat = 0 from rfl] at hx255_2)
        (try rw [show 0 * 3 = 0 from rfl] at hx255_2)
        (try rw [Addr.add_zero'] at hx255_2)
        have HR255_1 := Aside0.mk hi255_1
        have HC255_1 := Aside0.mk hl255_1
        clear hi255_1 hl255_1
        have HR255_2 := Aside0.mk hi255_2
        have HC255_2 := Aside0.mk hl255_2
        clear hi255_2 hl255_2
        replace p255 := eq_true p255
        replace q255 := eq_true q255
        refine start_ (n := 14) (S := fun w' => w'.cell? ⟨gb251, 0, none⟩ = some (.slice A2_0 l2_0.length c2_0) ∧ w'.cell? ⟨gb251, 1, none⟩ = some (.slice A2_1 l2_1.length c2_1) ∧ w'.cell? ad255 = some (.int .i64 ((rd_T41 l0 0).f0)) ∧ w'.cell? ⟨ad255.block, ad255.off + 1, none⟩ = some (.slice A255_1 ((rd_T41 l0 0).f1.f0).length c255_1) ∧ w'.cell? ⟨ad255.block, ad255.off + 2, none⟩ = some (.slice A255_2 ((rd_T41 l0 0).f1.f1).length c255_2)) (ds := []) L14_0 (by kernel_rfl) rfl rfl ⟨(blk_cell BK251.out 0).trans rfl, (blk_cell BK251.out 1).trans rfl, hx255_0, hx255_1, hx255_2⟩ (fun hHeld => ?_); refine with_tabW fullerref17_Put.tab7 fullerref17_Put.bits7 (fun HT_ HW_ => ?_)
        generalize w19.drew = w23 at HO_0 HO_252000 HO_252001 BK251 HB HL255_1 HL255_2 HR255_1 HR255_2 hx255_0 hx255_1 hx255_2 hHeld ⊢
        refine pure_ (i := 0) (N := some 40) (v := ?_) (a' := ?_) L14_1 rfl rfl (any_of HT_.out (by kernel_rfl)) (fun _ _ _ h => h) (Or.inl ⟨by rfl, ?_⟩) ?_ ?_
        rotate_left
        ·intro w'
         go_simp
         with_reducible rfl
        rotate_left
        ·simp only [Act.put, sA_, sB_, sC_, i64_w, i32_w]
         rfl
        refine pure_ (i := 1) (N := some 41) (v := ?_) (a' := ?_) L14_2 rfl rfl (any_of HT_.out (by kernel_rfl)) (fun _ _ _ h => h) (Or.inl ⟨by rfl, ?_⟩) ?_ ?_
        rotate_left
        ·intro w'
         go_simp
         with_reducible rfl
        rotate_left
        ·simp only [Act.put, sA_, sB_, sC_, i64_w, i32_w]
         rfl
        refine pure_ (i := 2) (N := some 42) (v := ?_) (a' := ?_) L14_3 rfl rfl (any_of HT_.out (by kernel_rfl)) (fun _ _ _ h => h) (Or.inl ⟨by rfl, ?_⟩) ?_ ?_
        rotate_left
        ·intro w'
         go_simp
         with_reducible rfl
        rotate_left
        ·simp only [Act.put, sA_, sB_, sC_, i64_w, i32_w]
         rfl
        refine pure_ (i := 3) (N := some 43) (v := ?_) (a' := ?_) L14_4 rfl rfl (any_of HT_.out (by kernel_rfl)) (fun _ _ _ h => h) (Or.inl ⟨by rfl, ?_⟩) ?_ ?_
        rotate_left
        ·intro w'
         go_simp
         with_reducible rfl
        rotate_left
        ·simp only [Act.put, sA_, sB_, sC_, i64_w, i32_w]
         rfl
        refine pure_ (i := 4) (N := some 44) (v := ?_) (a' := ?_) L14_5 rfl rfl (any_of HT_.out (by kernel_rfl)) (fun _ _ _ h => h) (Or.inl ⟨by rfl, ?_⟩) ?_ ?_
        rotate_left
        ·intro w'
         go_simp
         with_reducible rfl
        rotate_left
        ·simp only [Act.put, sA_, sB_, sC_, i64_w, i32_w]
         rfl
        refine pure_ (i := 5) (N := some 45) (v := ?_) (a' := ?_) L14_6 rfl rfl (any_of HT_.out (by kernel_rfl)) (fun _ _ _ h => h) (Or.inl ⟨by rfl, ?_⟩) ?_ ?_
        rotate_left
        ·intro w'
         go_simp
         with_reducible rfl
        rotate_left
        ·simp only [Act.put, sA_, sB_, sC_, i64_w, i32_w]
         rfl
        refine pure_ (i := 6) (N := some 46) (v := ?_) (a' := ?_) L14_7 rfl rfl (any_of HT_.out (by kernel_rfl)) (fun _ _ _ h => h) (Or.inl ⟨by rfl, ?_⟩) ?_ ?_
        rotate_left
        ·intro w'
         go_simp
         with_reducible rfl
        rotate_left
        ·simp only [Act.put, sA_, sB_, sC_, i64_w, i32_w]
         rfl
        refine pure_ (i := 7) (N := some 47) (v := ?_) (a' := ?_) L14_8 rfl rfl (any_of HT_.out (by kernel_rfl)) (fun _ _ _ h => h) (Or.inl ⟨by rfl, ?_⟩) ?_ ?_
        rotate_left
        ·intro w'
         go_simp
         with_reducible rfl
        rotate_left
        ·simp only [Act.put, sA_, sB_, sC_, i64_w, i32_w]
         rfl
        refine pure_ (i := 9) (N := some 49) (v := ?_) (a' := ?_) L14_9 rfl rfl (any_of HT_.out (by kernel_rfl)) (fun _ _ _ h => h) (Or.inl ⟨by rfl, ?_⟩) ?_ ?_
        rotate_left
        ·intro w'
         go_simp
         with_reducible rfl
        rotate_left
        ·simp only [Act.put, sA_, sB_, sC_, i64_w, i32_w]
         rfl
        refine take_ (i := 8) (N := some 48) (v := ?_) (a' := ?_) L14_10 rfl rfl (take_ofW HT_.out HW_.out (by kernel_rfl)) (fun _ _ _ h => h) (Or.inl ⟨by rfl, ?_⟩) hHeld ?_ ?_
        rotate_left
        ·rintro w' ⟨s0, s1, s2, s3, s4⟩
         go_simp
         with_reducible rfl
        rotate_left
        ·simp only [Act.put, sA_, sB_, sC_, i64_w, i32_w]
         rfl
        refine take_ (i := 10) (N := some 50) (v := ?_) (a' := ?_) L14_11 rfl rfl (take_ofW HT_.out HW_.out (by kernel_rfl)) (fun _ _ _ h => h) (Or.inl ⟨by rfl, ?_⟩) hHeld ?_ ?_
        rotate_left
        ·rintro w' ⟨s0, s1, s2, s3, s4⟩
         go_simp
         with_reducible rfl
        rotate_left
        ·simp only [Act.put, sA_, sB_, sC_, i64_w, i32_w]
         rfl
        refine one_ (i := 11) (N := some 51) L14_12 rfl rfl (one_of HT_.out (by kernel_rfl)) (by decide) (fun K hK => ?_)
        refine goes_ Try.func23 (by kernel_rfl) rfl #[.slice A255_1 ((rd_T41 l0 0).f1.f0).length c255_1, .slice A2_0 l2_0.length c2_0] (by rfl) rfl rfl (by (try simp only [List.map_toArray, List.map_cons, List.map_nil]); first | done | rfl | (simp only [List.length_drop, List.length_take]; rfl)) ?_
        with_reducible refine (fullerref02_Same.calls kj4 _ _ ((rd_T41 l0 0).f1.f0) _ _ l2_0 t256 _ ?side1 ?side2 ?side3 ?side4 A22.out).mono ?_
        (case side1 => repeat (first | exact (by repeat (first | (with_reducible exact HR255_1.out) | (with_reducible refine Kd.C_alloc ?_ _) | (with_reducible refine Kd.C_drewN ?_ _) | (with_reducible refine Kd.C_drew ?_) | exact HR255_1.out)) | (with_reducible refine Kd.C_alloc ?_ _) | (with_reducible refine Kd.C_drewN ?_ _) | (with_reducible refine Kd.C_drew ?_)))
        (case side2 => exact HC255_1.out)
        (case side3 => repeat (first | exact (Kd.V_reads' HO_252000.out).2.2 | (with_reducible refine Kd.C_alloc ?_ _) | (with_reducible refine Kd.C_drewN ?_ _) | (with_reducible refine Kd.C_drew ?_)))
        (case side4 => exact (Kd.V_reads' HO_252000.out).2.1)
        rintro e w' ⟨rfl, ⟨nd, rfl⟩⟩
        refine ⟨_, rfl, ?_⟩
        refine hK.out _ _ ⟨(blk_cell BK251.out 0).trans rfl, (blk_cell BK251.out 1).trans rfl, hHeld.2.2.1, hHeld.2.2.2.1, hHeld.2.2.2.2⟩ (fun hHeld => ?_)
        clear hK K
        refine norm_ (a' := ?_) ?_ ?_
        rotate_left
        ·show Act.put _ (some 51) _ = _
         simp only [Act.put, sA_, sB_, sC_, i64_w, i32_w]
         rfl
        refine pure_ (i := 12) (N := some 52) (v := ?_) (a' := ?_) L14_13 rfl rfl (any_of HT_.out (by kernel_rfl)) (fun _ _ _ h => h) (Or.inl ⟨by rfl, ?_⟩) ?_ ?_
        rotate_left
        ·intro w'
         go_simp
         with_reducible rfl
        rotate_left
        ·simp only [Act.put, sA_, sB_, sC_, i64_w, i32_w]
         rfl
        refine pure_ (i := 13) (N := some 53) (v := ?_) (a' := ?_) L14_14 rfl rfl (any_of HT_.out (by kernel_rfl)) (fun _ _ _ h => h) (Or.inl ⟨by rfl, ?_⟩) ?_ ?_
        rotate_left
        ·intro w'
         go_simp
         with_reducible rfl
        rotate_left
        ·simp only [Act.put, sA_, sB_, sC_, i64_w, i32_w]
         rfl
        refine done_ (done_of HT_.out (by kernel_rfl)) ?_
        try go_wp2
        go_meet
        case rel => exact ⟨_, (!t256), (by first | rfl | (simp; done) | (simp [*]; done)), H', ⟨by have := HJ4.out; first | omega | exact Nat.le_refl _⟩, ⟨by (with_reducible repeat (first | apply Kd.V_alloc | apply Kd.V_drewN | apply Kd.V_drew)); exact HO_0.out⟩, ⟨by (with_reducible repeat (first | apply Kd.V_alloc | apply Kd.V_drewN | apply Kd.V_drew)); exact HO_252000.out⟩, ⟨by (with_reducible repeat (first | apply Kd.V_alloc | apply Kd.V_drewN | apply Kd.V_drew)); exact HO_252001.out⟩, ⟨by (with_reducible repeat (first | refine blk_drewN ?_ _ | refine blk_drew ?_ | refine blk_alloc ?_ _)); exact BK251.out⟩, ⟨by repeat (first | (with_reducible first | exact HB.out | apply below_alloc | apply pw_below_drewN | apply below_drew1 | refine below_set ?_ GE251.out) | exact HB.out)⟩⟩
       ·rw [if_neg c21] at H
        exact absurd H (by simp)
      ·rw [if_neg c20] at H
       have c20b0 : decide (0 < (l0.length : Int)) = false := decide_eq_false c20
       have c20b1 : decide (0 < l0.length) = false := decide_eq_false (by omega)
       clear c20
       (first | rw [c20b0] | (simp only [i64_w, i32_w]; rw [c20b0]) | skip)
       have H' := Aside0.mk H
       clear H
       try go_wp2
       have n0_ := Aside0.mk (Kd.V_drew HO_0.out)
       have n1_ := Aside0.mk (Kd.V_drew HO_252000.out)
       have n2_ := Aside0.mk (Kd.V_drew HO_252001.out)
       have n3_ := Aside0.mk (blk_drew BK251.out)
       have n4_ := Aside0.mk (below_drew1 HB.out)
       clear HO_0 HO_252000 HO_252001 BK251 HB
       have HO_0 := n0_
       have HO_252000 := n1_
       have HO_252001 := n2_
       have BK251 := n3_
       have HB := n4_
       clear n0_ n1_ n2_ n3_ n4_
       refine start_ (n := 14) (S := fun w' => True) (ds := []) L14_0 (by kernel_rfl) rfl rfl trivial (fun hHeld => ?_); refine with_tabW fullerref17_Put.tab7 fullerref17_Put.bits7 (fun HT_ HW_ => ?_)
       generalize w19.drew = w24 at HO_0 HO_252000 HO_252001 BK251 HB hHeld ⊢
       refine pure_ (i := 0) (N := some 40) (v := ?_) (a' := ?_) L14_1 rfl rfl (any_of HT_.out (by kernel_rfl)) (fun _ _ _ h => h) (Or.inl ⟨by rfl, ?_⟩) ?_ ?_
       rotate_left
       ·intro w'
        go_simp
        with_reducible rfl
       rotate_left
       ·simp only [Act.put, sA_, sB_, sC_, i64_w, i32_w]
        rfl
       refine pure_ (i := 1) (N := some 41) (v := ?_) (a' := ?_) L14_2 rfl rfl (any_of HT_.out (by kernel_rfl)) (fun _ _ _ h => h) (Or.inl ⟨by rfl, ?_⟩) ?_ ?_
       rotate_left
       ·intro w'
        go_simp
        with_reducible rfl
       rotate_left
       ·simp only [Act.put, sA_, sB_, sC_, i64_w, i32_w]
        rfl
       refine pure_ (i := 2) (N := some 42) (v := ?_) (a' := ?_) L14_3 rfl rfl (any_of HT_.out (by kernel_rfl)) (fun _ _ _ h => h) (Or.inl ⟨by rfl, ?_⟩) ?_ ?_
       rotate_left
       ·intro w'
        go_simp
        with_reducible rfl
       rotate_left
       ·simp only [Act.put, sA_, sB_, sC_, i64_w, i32_w]
        rfl
       refine pure_ (i := 3) (N := some 43) (v := ?_) (a' := ?_) L14_4 rfl rfl (any_of HT_.out (by kernel_rfl)) (fun _ _ _ h => h) (Or.inl ⟨by rfl, ?_⟩) ?_ ?_
       rotate_left
       ·intro w'
        go_simp
        with_reducible rfl
       rotate_left
       ·simp only [Act.put, sA_, sB_, sC_, i64_w, i32_w]
        rfl
       refine skips_ (fuel := 1) (m := 10) HT_.out (fun _ _ _ _ _ h => h) [(4, 44), (5, 45), (6, 46), (7, 47), (8, 48), (9, 49), (10, 50), (11, 51), (12, 52)] L14_13 rfl (by kernel_rfl) (by kernel_rfl) (a' := ?_) ?_ ?_
       rotate_left
       ·simp only [putU, Act.put, sA_, sB_, sC_]
        rfl
       refine pure_ (i := 13) (N := some 53) (v := ?_) (a' := ?_) L14_14 rfl rfl (any_of HT_.out (by kernel_rfl)) (fun _ _ _ h => h) (Or.inl ⟨by rfl, ?_⟩) ?_ ?_
       rotate_left
       ·intro w'
        go_simp
        with_reducible rfl
       rotate_left
       ·simp only [Act.put, sA_, sB_, sC_, i64_w, i32_w]
        rfl
       refine done_ (done_of HT_.out (by kernel_rfl)) ?_
       try go_wp2
       go_meet
       case rel => exact ⟨_, (false), (by first | rfl | (simp; done) | (simp [*]; done)), H', ⟨by have := HJ4.out; first | omega | exact Nat.le_refl _⟩, ⟨by (with_reducible repeat (first | apply Kd.V_alloc | apply Kd.V_drewN | apply Kd.V_drew)); exact HO_0.out⟩, ⟨by (with_reducible repeat (first | apply Kd.V_alloc | apply Kd.V_drewN | apply Kd.V_drew)); exact HO_252000.out⟩, ⟨by (with_reducible repeat (first | apply Kd.V_alloc | apply Kd.V_drewN | apply Kd.V_drew)); exact HO_252001.out⟩, ⟨by (with_reducible repeat (first | refine blk_drewN ?_ _ | refine blk_drew ?_ | refine blk_alloc ?_ _)); exact BK251.out⟩, ⟨by repeat (first | (with_reducible first | exact HB.out | apply below_alloc | apply pw_below_drewN | apply below_drew1 | refine below_set ?_ GE251.out) | exact HB.out)⟩⟩
     case rest =>
      clear HC17
      try clear c1
      try clear c2
      try clear p2
      try clear q2
      try clear hx2
      try clear qi2
      try clear c3
      try clear p6
      try clear c8
      try clear c9
      try clear c9b0
      try clear c10
      try clear c10b0
      try clear c10b1
      try clear c12
      try clear c12b0
      try clear c13
      try clear c13b0
      try clear c14
      try clear c16
      try clear c18
      try clear c20
      try clear c20b0
      try clear c20b1
      try clear c21
      try clear c21b0
      try clear c21b1
      try clear c23
      try clear hcz18_0
      try clear hcz18_1
      try clear hfz18_0
      try clear hfz18_1
      try clear hx253_0
      try clear hx253_1
      try clear hx253_2
      try clear hx255_0
      try clear hx255_1
      try clear hx255_2
      try clear p2
      try clear p253
      try clear p255
      try clear p6
      try clear q2
      try clear q253
      try clear q255
      obtain ⟨kq, x53_16, rfl, HA, HJ16, HO_0, HO_252000, HO_252001, BK251, HB⟩ := hcut
      cases kq with
      | zero => exact absurd HA.out (by simp [fullerref17_Put.j1])
      | succ kj16 =>
       have H := HA.out
       clear HA
       simp only [fullerref17_Put.j1] at H
       by_cases c25 : x53_16 = true
       ·subst c25
        have H1 : (some (l0, 20)) = some (r1, r2) := by rw [if_pos rfl] at H; exact H
        clear H
        have H := H1
        clear H1
        simp only [Option.some.injEq, Prod.mk.injEq] at H
        obtain ⟨rfl, rfl⟩ := H
        go_wp2
        go_ret2
        exact ⟨_, by first | rfl | (simp [errW_none, errW_some] <;> rfl) | (simp [*, errW_none, errW_some] <;> rfl), by (with_reducible repeat (first | apply Kd.V_alloc | apply Kd.V_drewN | apply Kd.V_drew)); exact Kd.V_mono HO_0.out (fun _ hk => hk.1), by repeat (first | (with_reducible first | exact HB.out | apply below_alloc | apply pw_below_drewN | apply below_drew1 | refine below_set ?_ GE251.out) | exact HB.out)⟩
       ·replace c25 := Bool.eq_false_iff.mpr c25
        subst c25
        have H1 : (if (l0.length : Int) = 16 then (some (l0, 171)) else ((some (([] : List (S41)) : List (S41))).bind fun y257 => (if y257.length + l0.length < 2513169434916 then ((some (y257 ++ l0 : List (S41))).bind fun y260 => ((some (([(⟨a1, (⟨l2_0, l2_1⟩ : S25)⟩ : S41)] : List (S41)) : List (S41))).bind fun y263 => (if y260.length + y263.length < 2513169434916 then (some ((y260 ++ y263), 0)) else (none)))) else (none)))) = some (r1, r2) := by rw [if_neg (show ¬ (false = true) by decide)] at H; exact H
        clear H
        have H := H1
        clear H1
        by_cases c26 : (l0.length : Int) = 16
        ·rw [if_pos c26] at H
         have c26b0 : ((l0.length : Int) == 16) = true := beq_iff_eq.mpr c26
         have c26b1 : ((l0.length : Int) != 16) = false := bne_eq_false_iff_eq.mpr c26
         clear c26
         simp only [Option.some.injEq, Prod.mk.injEq] at H
         obtain ⟨rfl, rfl⟩ := H
         go_wp2
         go_ret2
         exact ⟨_, by first | rfl | (simp [errW_none, errW_some] <;> rfl) | (simp [*, errW_none, errW_some] <;> rfl), by (with_reducible repeat (first | apply Kd.V_alloc | apply Kd.V_drewN | apply Kd.V_drew)); exact Kd.V_mono HO_0.out (fun _ hk => hk.1), by repeat (first | (with_reducible first | exact HB.out | apply below_alloc | apply pw_below_drewN | apply below_drew1 | refine below_set ?_ GE251.out) | exact HB.out)⟩
        ·rw [if_neg c26] at H
         have c26b0 : ((l0.length : Int) == 16) = false := beq_eq_false_iff_ne.mpr c26
         have c26b1 : ((l0.length : Int) != 16) = true := bne_iff_ne.mpr c26
         obtain ⟨y257, hy257⟩ : ∃ y_ : List (S41), y_ = (([] : List (S41))) := ⟨_, rfl⟩
         replace H : (if y257.length + l0.length < 2513169434916 then ((some (y257 ++ l0 : List (S41))).bind fun y260 => ((some (([(⟨a1, (⟨l2_0, l2_1⟩ : S25)⟩ : S41)] : List (S41)) : List (S41))).bind fun y263 => (if y260.length + y263.length < 2513169434916 then (some ((y260 ++ y263), 0)) else (none)))) else (none)) = some (r1, r2) := by first | (rw [hy257]; with_reducible exact H) | (have H2_ := (Option.bind_some _ _).symm.trans H; rw [hy257]; with_reducible exact H2_) | (have H2_ := (Option.bind_some _ _).symm.trans H; with_reducible exact H2_) | with_reducible exact H | (rw [hy257]; exact H) | exact H
         have Ny257 := Aside0.mk hy257
         clear hy257
         by_cases c27 : y257.length + l0.length < 2513169434916
         ·rw [if_pos c27] at H
          have LMc27 := Aside0.mk c27
          clear c27
          obtain ⟨y260, hy260⟩ : ∃ y_ : List (S41), y_ = (y257 ++ l0) := ⟨_, rfl⟩
          replace H : ((some (([(⟨a1, (⟨l2_0, l2_1⟩ : S25)⟩ : S41)] : List (S41)) : List (S41))).bind fun y263 => (if y260.length + y263.length < 2513169434916 then (some ((y260 ++ y263), 0)) else (none))) = some (r1, r2) := by first | (rw [hy260]; with_reducible exact H) | (have H2_ := (Option.bind_some _ _).symm.trans H; rw [hy260]; with_reducible exact H2_) | (have H2_ := (Option.bind_some _ _).symm.trans H; with_reducible exact H2_) | with_reducible exact H | (rw [hy260]; exact H) | exact H
          have Ny260 := Aside0.mk hy260
          clear hy260
          obtain ⟨y263, hy263⟩ : ∃ y_ : List (S41), y_ = (([(⟨a1, (⟨l2_0, l2_1⟩ : S25)⟩ : S41)] : List (S41))) := ⟨_, rfl⟩
          replace H : (if y260.length + y263.length < 2513169434916 then (some ((y260 ++ y263), 0)) else (none)) = some (r1, r2) := by first | (rw [hy263]; with_reducible exact H) | (have H2_ := (Option.bind_some _ _).symm.trans H; rw [hy263]; with_reducible exact H2_) | (have H2_ := (Option.bind_some _ _).symm.trans H; with_reducible exact H2_) | with_reducible exact H | (rw [hy263]; exact H) | exact H
          have Ny263 := Aside0.mk hy263
          clear hy263
          by_cases c28 : y260.length + y263.length < 2513169434916
          ·rw [if_pos c28] at H
           have LMc28 := Aside0.mk c28
           clear c28
           obtain ⟨y266, hy266⟩ : ∃ y_ : List (S41), y_ = (y260 ++ y263) := ⟨_, rfl⟩
           replace H : (some (y266, 0)) = some (r1, r2) := by first | (rw [hy266]; with_reducible exact H) | (have H2_ := (Option.bind_some _ _).symm.trans H; rw [hy266]; with_reducible exact H2_) | (have H2_ := (Option.bind_some _ _).symm.trans H; with_reducible exact H2_) | with_reducible exact H | (rw [hy266]; exact H) | exact H
           have Ny266 := Aside0.mk hy266
           clear hy266
           simp only [Option.some.injEq, Prod.mk.injEq] at H
           obtain ⟨rfl, rfl⟩ := H
           try go_wp2
           have n0_ := Aside0.mk (Kd.V_drew HO_0.out)
           have n1_ := Aside0.mk (Kd.V_drew HO_252000.out)
           have n2_ := Aside0.mk (Kd.V_drew HO_252001.out)
           have n3_ := Aside0.mk (blk_drew BK251.out)
           have n4_ := Aside0.mk (below_drew1 HB.out)
           clear HO_0 HO_252000 HO_252001 BK251 HB
           have HO_0 := n0_
           have HO_252000 := n1_
           have HO_252001 := n2_
           have BK251 := n3_
           have HB := n4_
           clear n0_ n1_ n2_ n3_ n4_
           refine start_ (n := 10) (S := fun w' => w'.cell? ⟨gb251, 0, none⟩ = some (.slice A2_0 l2_0.length c2_0) ∧ w'.cell? ⟨gb251, 1, none⟩ = some (.slice A2_1 l2_1.length c2_1)) (ds := []) L14_15 (by kernel_rfl) rfl rfl ⟨(blk_cell BK251.out 0).trans rfl, (blk_cell BK251.out 1).trans rfl⟩ (fun hHeld => ?_); refine with_tabW fullerref17_Put.tab11 fullerref17_Put.bits11 (fun HT_ HW_ => ?_)
           generalize wc.drew = w29 at HO_0 HO_252000 HO_252001 BK251 HB hHeld ⊢
           refine pure_ (i := 1) (N := some 60) (v := ?_) (a' := ?_) L14_16 rfl rfl (any_of HT_.out (by kernel_rfl)) (fun _ _ _ h => h) (Or.inl ⟨by rfl, ?_⟩) ?_ ?_
           rotate_left
           ·intro w'
            go_simp
            with_reducible rfl
           rotate_left
           ·simp only [Act.put, sA_, sB_, sC_, i64_w, i32_w]
            rfl
           refine pure_ (i := 3) (N := some 62) (v := ?_) (a' := ?_) L14_17 rfl rfl (any_of HT_.out (by kernel_rfl)) (fun _ _ _ h => h) (Or.inl ⟨by rfl, ?_⟩) ?_ ?_
           rotate_left
           ·intro w'
            go_simp
            with_reducible rfl
           rotate_left
           ·simp only [Act.put, sA_, sB_, sC_, i64_w, i32_w]
            rfl
           refine take_ (i := 4) (N := some 63) (v := ?_) (a' := ?_) L14_18 rfl rfl (take_ofW HT_.out HW_.out (by kernel_rfl)) (fun _ _ _ h => h) (Or.inl ⟨by rfl, ?_⟩) hHeld ?_ ?_
           rotate_left
           ·rintro w' ⟨s0, s1⟩
            go_simp
            with_reducible rfl
           rotate_left
           ·simp only [Act.put, sA_, sB_, sC_, i64_w, i32_w]
            rfl
           refine pure_ (i := 5) (N := some 64) (v := ?_) (a' := ?_) L14_19 rfl rfl (any_of HT_.out (by kernel_rfl)) (fun _ _ _ h => h) (Or.inl ⟨by rfl, ?_⟩) ?_ ?_
           rotate_left
           ·intro w'
            go_simp
            with_reducible rfl
           rotate_left
           ·simp only [Act.put, sA_, sB_, sC_, i64_w, i32_w]
            rfl
           refine join_ (σ := Value × Value × Value) 3 L14_20 (fun s_ => [(59, s_.1), (61, s_.2.1), (65, s_.2.2)]) (fun s_ w' => (w'.cell? ⟨gb251, 0, none⟩ = some (.slice A2_0 l2_0.length c2_0) ∧ w'.cell? ⟨gb251, 1, none⟩ = some (.slice A2_1 l2_1.length c2_1)) ∧ (Kd.N k41 41 w' w.heap.size (fun k_ => ((P0_ k_ ∨ P2_0_ k_ ∨ P2_1_ k_) ∨ w.heap.size ≤ k_) ∧ some k_ ≠ (s_.2.2 : Value).ownBlock ∧ k_ ≠ gb251) s_.2.1 y260) ∧ (Kd.N k41 41 w' w.heap.size (fun k_ => ((P0_ k_ ∨ P2_0_ k_ ∨ P2_1_ k_) ∨ w.heap.size ≤ k_) ∧ some k_ ≠ (s_.2.1 : Value).ownBlock ∧ k_ ≠ gb251) s_.2.2 y263) ∧ (Kd.V k41 41 w' w.heap.size (fun k_ => ((P0_ k_ ∨ P2_0_ k_ ∨ P2_1_ k_) ∨ w.heap.size ≤ k_) ∧ some k_ ≠ (s_.2.1 : Value).ownBlock ∧ some k_ ≠ (s_.2.2 : Value).ownBlock ∧ k_ ≠ gb251) (.slice A0 l0.length c0) l0) ∧ (Kd.V (Kd.int .i64) 3 w' w.heap.size (fun k_ => ((P0_ k_ ∨ P2_0_ k_ ∨ P2_1_ k_) ∨ w.heap.size ≤ k_) ∧ some k_ ≠ (s_.2.1 : Value).ownBlock ∧ some k_ ≠ (s_.2.2 : Value).ownBlock ∧ k_ ≠ gb251) (.slice A2_0 l2_0.length c2_0) l2_0) ∧ (Kd.V (Kd.int .i64) 3 w' w.heap.size (fun k_ => ((P0_ k_ ∨ P2_0_ k_ ∨ P2_1_ k_) ∨ w.heap.size ≤ k_) ∧ some k_ ≠ (s_.2.1 : Value).ownBlock ∧ some k_ ≠ (s_.2.2 : Value).ownBlock ∧ k_ ≠ gb251) (.slice A2_1 l2_1.length c2_1) l2_1) ∧ (w'.heap[gb251]? = some (.cells #[.slice A2_0 l2_0.length c2_0, .slice A2_1 l2_1.length c2_1] 25 (0, 0))) ∧ (Below w.heap.size w w')) ?_ ?_
           rotate_left
           ·intro hCont
            refine two_ (i := 0) (j := 6) (Ni := some 59) (Nj := some 65) L14_21 L14_22 rfl rfl rfl rfl (two_of HT_.out (by kernel_rfl)) (by decide) (by decide) (fun K hK => ?_) (fun K hK => ?_)
            ·skip
             refine Kd.N_lit_step k41 _ 41 ?hg (N' := 59) ?hd (xs := ([] : List (S41))) (inner := []) (ok := (fun k_ => ((P0_ k_ ∨ P2_0_ k_ ∨ P2_1_ k_) ∨ w.heap.size ≤ k_) ∧ k_ ≠ gb251)) (okp := (fun k_ => ((P0_ k_ ∨ P2_0_ k_ ∨ P2_1_ k_) ∨ w.heap.size ≤ k_) ∧ k_ ≠ gb251)) ?hr ?hp (fun _ hk => hk) ((show ∀ k_, w29.heap.size ≤ k_ → (fun k_ => ((P0_ k_ ∨ P2_0_ k_ ∨ P2_1_ k_) ∨ w.heap.size ≤ k_) ∧ k_ ≠ gb251) k_ from fun k_ hk => ⟨(.inr (Nat.le_trans (below_size (bq1_ HB.out GE251.out)) hk)), Kd.freshB (g := gb251) (o := .cells #[.slice A2_0 l2_0.length c2_0, .slice A2_1 l2_1.length c2_1] 25 (0, 0)) (mvK_ BK251.out) k_ hk⟩) _ (Nat.le_refl _)) (Below.refl _ _) (Nat.le_refl _) (by simp) ?_; (case hd => rfl); (case hg => rfl); (case hr => first | (go_simp; done) | (go_simp; rfl)); (case hp => exact (Reps.none _ _))
             intro v258 w30 ho31 hb hg_ hnew_
             clear hg_ hnew_
             (first | rw [← Ny257.out] at ho31 | (simp only [Int.reduceToNat] at ho31; rw [← Ny257.out] at ho31))
             have n0_ := Aside0.mk (Kd.V_elder' (mvV_ HO_0.out) (Kd.N_base ho31) hb)
             have n1_ := Aside0.mk (Kd.V_elder' (mvV_ HO_252000.out) (Kd.N_base ho31) hb)
             have n2_ := Aside0.mk (Kd.V_elder' (mvV_ HO_252001.out) (Kd.N_base ho31) hb)
             have n3_ := Aside0.mk (Kd.N_lower ho31 (below_size (bq1_ HB.out GE251.out)))
             have n4_ := Aside0.mk (blk_below (g := gb251) (o := .cells #[.slice A2_0 l2_0.length c2_0, .slice A2_1 l2_1.length c2_1] 25 (0, 0)) (mvK_ BK251.out) hb)
             have n5_ := Aside0.mk (below_step (bq1_ HB.out GE251.out) hb)
             clear HO_0 HO_252000 HO_252001 BK251 HB
             have HO_0 := n0_
             have HO_252000 := n1_
             have HO_252001 := n2_
             have HO259 := n3_
             have BK251 := n4_
             have HB := n5_
             clear n0_ n1_ n2_ n3_ n4_ n5_ hb ho31
             refine hK.out _ _ ⟨(blk_cell BK251.out 0).trans rfl, (blk_cell BK251.out 1).trans rfl⟩ (fun hHeld => ?_)
             clear hK K
             refine norm_ (a' := ?_) ?_ ?_
             rotate_left
             ·show Act.put _ (some 59) _ = _
              simp only [Act.put, sA_, sB_, sC_, i64_w, i32_w]
              rfl
             refine two_ (i := 2) (j := 6) (Ni := some 61) (Nj := some 65) L14_23 L14_24 rfl rfl rfl rfl (two_of HT_.out (by kernel_rfl)) (by decide) (by decide) (fun K hK => ?_) (fun K hK => ?_)
             ·skip
              refine Kd.N_append_rows_step k41 (w0 := w) w.heap.size (by rfl) (.tmp 59) (.tmp 60) 22 41 (.agg #[(.int .i64 0), (.slice none 0 0), (.slice none 0 0)]) 56 rfl Try.underlying22 info41 rfl (by decide) (by omega) v258 y257 l0 _ _ _ (fun k_ => ((P0_ k_ ∨ P2_0_ k_ ∨ P2_1_ k_) ∨ w.heap.size ≤ k_) ∧ k_ ≠ gb251) (fun k_ => ((fun k_ => ((P0_ k_ ∨ P2_0_ k_ ∨ P2_1_ k_) ∨ w.heap.size ≤ k_) ∧ k_ ≠ gb251)) k_ ∧ some k_ ≠ (v258 : Value).ownBlock) rfl rfl ?aO ?aR (fun _ hk => hk) ?aF ?aB ?aS ?aL ?_
              (case aR => exact (by skip; exact Kd.V_F (Kd.V_mono (ok' := (fun k_ => ((fun k_ => ((P0_ k_ ∨ P2_0_ k_ ∨ P2_1_ k_) ∨ w.heap.size ≤ k_) ∧ k_ ≠ gb251)) k_ ∧ some k_ ≠ (v258 : Value).ownBlock)) (HO_0.out) (fun k_ hk => ⟨⟨hk.1.1, hk.1.2⟩, hk.2⟩))))
              (case aB => exact (bq1_ HB.out GE251.out))
              (case aF => exact (fun k_ hk => ⟨(.inr (Nat.le_trans (below_size (bq1_ HB.out GE251.out)) hk)), Kd.freshB (g := gb251) (o := .cells #[.slice A2_0 l2_0.length c2_0, .slice A2_1 l2_1.length c2_1] 25 (0, 0)) (mvK_ BK251.out) k_ hk⟩))
              (case aO => exact (mvN_ HO259.out))
              (case aS => exact (below_size (bq1_ HB.out GE251.out)))
              (case aL => have := LMc27.out; omega)
              intro v261 w32 ho hb hg hat
              rw [← Ny260.out] at ho
              have n0_ := Aside0.mk (Kd.V_afterv (ok := (fun k_ => ((P0_ k_ ∨ P2_0_ k_ ∨ P2_1_ k_) ∨ w.heap.size ≤ k_) ∧ k_ ≠ gb251)) (mvV_ HO_0.out) hg hat)
              have n1_ := Aside0.mk (Kd.V_afterv (ok := (fun k_ => ((P0_ k_ ∨ P2_0_ k_ ∨ P2_1_ k_) ∨ w.heap.size ≤ k_) ∧ k_ ≠ gb251)) (mvV_ HO_252000.out) hg hat)
              have n2_ := Aside0.mk (Kd.V_afterv (ok := (fun k_ => ((P0_ k_ ∨ P2_0_ k_ ∨ P2_1_ k_) ∨ w.heap.size ≤ k_) ∧ k_ ≠ gb251)) (mvV_ HO_252001.out) hg hat)
              have n3_ := Aside0.mk (blk_grown (g := gb251) (o := .cells #[.slice A2_0 l2_0.length c2_0, .slice A2_1 l2_1.length c2_1] 25 (0, 0)) (mvK_ BK251.out) hg (Kd.N_ne HO259.out BK251.out (by decide)))
              have n4_ := Aside0.mk (hb)
              have n5_ := Aside0.mk (ho)
              clear HO_0 HO_252000 HO_252001 BK251 HB HO259
              have HO_0 := n0_
              have HO_252000 := n1_
              have HO_252001 := n2_
              have BK251 := n3_
              have HB := n4_
              have HO262 := n5_
              clear n0_ n1_ n2_ n3_ n4_ n5_ ho hb hg hat
              refine hK.out _ _ ⟨(blk_cell BK251.out 0).trans rfl, (blk_cell BK251.out 1).trans rfl⟩ (fun hHeld => ?_)
              clear hK K
              refine norm_ (a' := ?_) ?_ ?_
              rotate_left
              ·show Act.put _ (some 61) _ = _
               simp only [Act.put, sA_, sB_, sC_, i64_w, i32_w]
               rfl
              refine one_ (i := 6) (N := some 65) L14_20 rfl rfl (one_of HT_.out (by kernel_rfl)) (by decide) (fun K hK => ?_)
              refine Kd.N_lit_step k41 _ 41 ?hg (N' := 65) ?hd (xs := ([(⟨a1, (⟨l2_0, l2_1⟩ : S25)⟩ : S41)] : List (S41))) (inner := [.int .i64 a1, .slice A2_0 l2_0.length c2_0, .slice A2_1 l2_1.length c2_1]) (ok := (fun k_ => ((P0_ k_ ∨ P2_0_ k_ ∨ P2_1_ k_) ∨ w.heap.size ≤ k_) ∧ some k_ ≠ (v261 : Value).ownBlock ∧ k_ ≠ gb251)) (okp := (fun k_ => ((P0_ k_ ∨ P2_0_ k_ ∨ P2_1_ k_) ∨ w.heap.size ≤ k_) ∧ some k_ ≠ (v261 : Value).ownBlock ∧ k_ ≠ gb251)) ?hr ?hp (fun _ hk => hk) ((show ∀ k_, w32.heap.size ≤ k_ → (fun k_ => ((P0_ k_ ∨ P2_0_ k_ ∨ P2_1_ k_) ∨ w.heap.size ≤ k_) ∧ some k_ ≠ (v261 : Value).ownBlock ∧ k_ ≠ gb251) k_ from fun k_ hk => ⟨(.inr (Nat.le_trans (below_size (bq1_ HB.out GE251.out)) hk)), Kd.fresh' (Kd.N_lt (mvN_ HO262.out)) k_ hk, Kd.freshB (g := gb251) (o := .cells #[.slice A2_0 l2_0.length c2_0, .slice A2_1 l2_1.length c2_1] 25 (0, 0)) (mvK_ BK251.out) k_ hk⟩) _ (Nat.le_refl _)) (Below.refl _ _) (Nat.le_refl _) (by simp) ?_; (case hd => rfl); (case hg => rfl); (case hr => first | (go_simp; done) | (go_simp; rfl)); (case hp => exact (Reps.c3 (show Kd.FK k41 _ _ (⟨a1, (⟨l2_0, l2_1⟩ : S25)⟩ : S41) [.int .i64 a1, .slice A2_0 l2_0.length c2_0, .slice A2_1 l2_1.length c2_1] from (k41_mkF _ _ (⟨a1, (⟨l2_0, l2_1⟩ : S25)⟩ : S41) (Kd.V_reads' (Kd.V_mono (ok' := (fun k_ => ((P0_ k_ ∨ P2_0_ k_ ∨ P2_1_ k_) ∨ w.heap.size ≤ k_) ∧ some k_ ≠ (v261 : Value).ownBlock ∧ k_ ≠ gb251)) (HO_252000.out) (fun k_ hk => ⟨hk.1.1, ⟨hk.2, hk.1.2⟩⟩))).2.1 (Kd.V_F (Kd.V_mono (ok' := (fun k_ => ((P0_ k_ ∨ P2_0_ k_ ∨ P2_1_ k_) ∨ w.heap.size ≤ k_) ∧ some k_ ≠ (v261 : Value).ownBlock ∧ k_ ≠ gb251)) (HO_252000.out) (fun k_ hk => ⟨hk.1.1, ⟨hk.2, hk.1.2⟩⟩))) (Kd.V_reads' (Kd.V_mono (ok' := (fun k_ => ((P0_ k_ ∨ P2_0_ k_ ∨ P2_1_ k_) ∨ w.heap.size ≤ k_) ∧ some k_ ≠ (v261 : Value).ownBlock ∧ k_ ≠ gb251)) (HO_252001.out) (fun k_ hk => ⟨hk.1.1, ⟨hk.2, hk.1.2⟩⟩))).2.1 (Kd.V_F (Kd.V_mono (ok' := (fun k_ => ((P0_ k_ ∨ P2_0_ k_ ∨ P2_1_ k_) ∨ w.heap.size ≤ k_) ∧ some k_ ≠ (v261 : Value).ownBlock ∧ k_ ≠ gb251)) (HO_252001.out) (fun k_ hk => ⟨hk.1.1, ⟨hk.2, hk.1.2⟩⟩))))) (Reps.none _ _)))
              intro v264 w33 ho34 hb hg_ hnew_
              clear hg_ hnew_
              (first | rw [← Ny263.out] at ho34 | (simp only [Int.reduceToNat] at ho34; rw [← Ny263.out] at ho34))
              have n0_ := Aside0.mk (Kd.V_elder' (mvV_ HO_0.out) (Kd.N_base ho34) hb)
              have n1_ := Aside0.mk (Kd.V_elder' (mvV_ HO_252000.out) (Kd.N_base ho34) hb)
              have n2_ := Aside0.mk (Kd.V_elder' (mvV_ HO_252001.out) (Kd.N_base ho34) hb)
              have n3_ := Aside0.mk (Kd.N_elder' (mvN_ HO262.out) (Kd.N_base ho34) hb)
              have n4_ := Aside0.mk (Kd.N_lower ho34 (below_size (bq1_ HB.out GE251.out)))
              have n5_ := Aside0.mk (blk_below (g := gb251) (o := .cells #[.slice A2_0 l2_0.length c2_0, .slice A2_1 l2_1.length c2_1] 25 (0, 0)) (mvK_ BK251.out) hb)
              have n6_ := Aside0.mk (below_step (bq1_ HB.out GE251.out) hb)
              clear HO_0 HO_252000 HO_252001 HO262 BK251 HB
              have HO_0 := n0_
              have HO_252000 := n1_
              have HO_252001 := n2_
              have HO262 := n3_
              have HO265 := n4_
              have BK251 := n5_
              have HB := n6_
              clear n0_ n1_ n2_ n3_ n4_ n5_ n6_ hb ho34
              refine hK.out _ _ ⟨(blk_cell BK251.out 0).trans rfl, (blk_cell BK251.out 1).trans rfl⟩ (fun hHeld => ?_)
              clear hK K
              refine norm_ (a' := ?_) ?_ ?_
              rotate_left
              ·show Act.put _ (some 65) _ = _
               simp only [Act.put, sA_, sB_, sC_, i64_w, i32_w]
               rfl
              exact norm_ (by simp only [putAll, Act.put, sA_, sB_, sC_]) (hCont (v258, v261, v264) _ ⟨hHeld, (by (with_reducible repeat (first | apply Kd.N_alloc | apply Kd.N_drewN | apply Kd.N_drew)); exact Kd.N_mono HO262.out (fun _ hk => ⟨hk.1.1, ⟨hk.2, hk.1.2⟩⟩)), (mvN_ HO265.out), (by (with_reducible repeat (first | apply Kd.V_alloc | apply Kd.V_drewN | apply Kd.V_drew)); exact Kd.V_mono HO_0.out (fun _ hk => ⟨hk.1.1.1, ⟨hk.1.2, ⟨hk.2, hk.1.1.2⟩⟩⟩)), (by (with_reducible repeat (first | apply Kd.V_alloc | apply Kd.V_drewN | apply Kd.V_drew)); exact Kd.V_mono HO_252000.out (fun _ hk => ⟨hk.1.1.1, ⟨hk.1.2, ⟨hk.2, hk.1.1.2⟩⟩⟩)), (by (with_reducible repeat (first | apply Kd.V_alloc | apply Kd.V_drewN | apply Kd.V_drew)); exact Kd.V_mono HO_252001.out (fun _ hk => ⟨hk.1.1.1, ⟨hk.1.2, ⟨hk.2, hk.1.1.2⟩⟩⟩)), (mvK_ BK251.out), (bq1_ HB.out GE251.out)⟩)
             ·skip
              refine Kd.N_lit_step k41 _ 41 ?hg (N' := 65) ?hd (xs := ([(⟨a1, (⟨l2_0, l2_1⟩ : S25)⟩ : S41)] : List (S41))) (inner := [.int .i64 a1, .slice A2_0 l2_0.length c2_0, .slice A2_1 l2_1.length c2_1]) (ok := (fun k_ => ((P0_ k_ ∨ P2_0_ k_ ∨ P2_1_ k_) ∨ w.heap.size ≤ k_) ∧ some k_ ≠ (v258 : Value).ownBlock ∧ k_ ≠ gb251)) (okp := (fun k_ => ((P0_ k_ ∨ P2_0_ k_ ∨ P2_1_ k_) ∨ w.heap.size ≤ k_) ∧ some k_ ≠ (v258 : Value).ownBlock ∧ k_ ≠ gb251)) ?hr ?hp (fun _ hk => hk) ((show ∀ k_, w30.heap.size ≤ k_ → (fun k_ => ((P0_ k_ ∨ P2_0_ k_ ∨ P2_1_ k_) ∨ w.heap.size ≤ k_) ∧ some k_ ≠ (v258 : Value).ownBlock ∧ k_ ≠ gb251) k_ from fun k_ hk => ⟨(.inr (Nat.le_trans (below_size (bq1_ HB.out GE251.out)) hk)), Kd.fresh' (Kd.N_lt (mvN_ HO259.out)) k_ hk, Kd.freshB (g := gb251) (o := .cells #[.slice A2_0 l2_0.length c2_0, .slice A2_1 l2_1.length c2_1] 25 (0, 0)) (mvK_ BK251.out) k_ hk⟩) _ (Nat.le_refl _)) (Below.refl _ _) (Nat.le_refl _) (by simp) ?_; (case hd => rfl); (case hg => rfl); (case hr => first | (go_simp; done) | (go_simp; rfl)); (case hp => exact (Reps.c3 (show Kd.FK k41 _ _ (⟨a1, (⟨l2_0, l2_1⟩ : S25)⟩ : S41) [.int .i64 a1, .slice A2_0 l2_0.length c2_0, .slice A2_1 l2_1.length c2_1] from (k41_mkF _ _ (⟨a1, (⟨l2_0, l2_1⟩ : S25)⟩ : S41) (Kd.V_reads' (Kd.V_mono (ok' := (fun k_ => ((P0_ k_ ∨ P2_0_ k_ ∨ P2_1_ k_) ∨ w.heap.size ≤ k_) ∧ some k_ ≠ (v258 : Value).ownBlock ∧ k_ ≠ gb251)) (HO_252000.out) (fun k_ hk => ⟨hk.1.1, ⟨hk.2, hk.1.2⟩⟩))).2.1 (Kd.V_F (Kd.V_mono (ok' := (fun k_ => ((P0_ k_ ∨ P2_0_ k_ ∨ P2_1_ k_) ∨ w.heap.size ≤ k_) ∧ some k_ ≠ (v258 : Value).ownBlock ∧ k_ ≠ gb251)) (HO_252000.out) (fun k_ hk => ⟨hk.1.1, ⟨hk.2, hk.1.2⟩⟩))) (Kd.V_reads' (Kd.V_mono (ok' := (fun k_ => ((P0_ k_ ∨ P2_0_ k_ ∨ P2_1_ k_) ∨ w.heap.size ≤ k_) ∧ some k_ ≠ (v258 : Value).ownBlock ∧ k_ ≠ gb251)) (HO_252001.out) (fun k_ hk => ⟨hk.1.1, ⟨hk.2, hk.1.2⟩⟩))).2.1 (Kd.V_F (Kd.V_mono (ok' := (fun k_ => ((P0_ k_ ∨ P2_0_ k_ ∨ P2_1_ k_) ∨ w.heap.size ≤ k_) ∧ some k_ ≠ (v258 : Value).ownBlock ∧ k_ ≠ gb251)) (HO_252001.out) (fun k_ hk => ⟨hk.1.1, ⟨hk.2, hk.1.2⟩⟩))))) (Reps.none _ _)))
              intro v264 w32 ho33 hb hg_ hnew_
              clear hg_ hnew_
              (first | rw [← Ny263.out] at ho33 | (simp only [Int.reduceToNat] at ho33; rw [← Ny263.out] at ho33))
              have n0_ := Aside0.mk (Kd.V_elder' (mvV_ HO_0.out) (Kd.N_base ho33) hb)
              have n1_ := Aside0.mk (Kd.V_elder' (mvV_ HO_252000.out) (Kd.N_base ho33) hb)
              have n2_ := Aside0.mk (Kd.V_elder' (mvV_ HO_252001.out) (Kd.N_base ho33) hb)
              have n3_ := Aside0.mk (Kd.N_elder' (mvN_ HO259.out) (Kd.N_base ho33) hb)
              have n4_ := Aside0.mk (Kd.N_lower ho33 (below_size (bq1_ HB.out GE251.out)))
              have n5_ := Aside0.mk (blk_below (g := gb251) (o := .cells #[.slice A2_0 l2_0.length c2_0, .slice A2_1 l2_1.length c2_1] 25 (0, 0)) (mvK_ BK251.out) hb)
              have n6_ := Aside0.mk (below_step (bq1_ HB.out GE251.out) hb)
              clear HO_0 HO_252000 HO_252001 HO259 BK251 HB
              have HO_0 := n0_
              have HO_252000 := n1_
              have HO_252001 := n2_
              have HO259 := n3_
              have HO265 := n4_
              have BK251 := n5_
              have HB := n6_
              clear n0_ n1_ n2_ n3_ n4_ n5_ n6_ hb ho33
              refine hK.out _ _ ⟨(blk_cell BK251.out 0).trans rfl, (blk_cell BK251.out 1).trans rfl⟩ (fun hHeld => ?_)
              clear hK K
              refine norm_ (a' := ?_) ?_ ?_
              rotate_left
              ·show Act.put _ (some 65) _ = _
               simp only [Act.put, sA_, sB_, sC_, i64_w, i32_w]
               rfl
              refine one_ (i := 2) (N := some 61) L14_20 rfl rfl (one_of HT_.out (by kernel_rfl)) (by decide) (fun K hK => ?_)
              refine Kd.N_append_rows_step k41 (w0 := w) w.heap.size (by rfl) (.tmp 59) (.tmp 60) 22 41 (.agg #[(.int .i64 0), (.slice none 0 0), (.slice none 0 0)]) 56 rfl Try.underlying22 info41 rfl (by decide) (by omega) v258 y257 l0 _ _ _ (fun k_ => ((P0_ k_ ∨ P2_0_ k_ ∨ P2_1_ k_) ∨ w.heap.size ≤ k_) ∧ some k_ ≠ (v264 : Value).ownBlock ∧ k_ ≠ gb251) (fun k_ => ((fun k_ => ((P0_ k_ ∨ P2_0_ k_ ∨ P2_1_ k_) ∨ w.heap.size ≤ k_) ∧ some k_ ≠ (v264 : Value).ownBlock ∧ k_ ≠ gb251)) k_ ∧ some k_ ≠ (v258 : Value).ownBlock) rfl rfl ?aO ?aR (fun _ hk => hk) ?aF ?aB ?aS ?aL ?_
              (case aR => exact (by skip; exact Kd.V_F (Kd.V_mono (ok' := (fun k_ => ((fun k_ => ((P0_ k_ ∨ P2_0_ k_ ∨ P2_1_ k_) ∨ w.heap.size ≤ k_) ∧ some k_ ≠ (v264 : Value).ownBlock ∧ k_ ≠ gb251)) k_ ∧ some k_ ≠ (v258 : Value).ownBlock)) (HO_0.out) (fun k_ hk => ⟨⟨hk.1.1.1, ⟨hk.2, hk.1.1.2⟩⟩, hk.1.2⟩))))
              (case aB => exact (bq1_ HB.out GE251.out))
              (case aF => exact (fun k_ hk => ⟨(.inr (Nat.le_trans (below_size (bq1_ HB.out GE251.out)) hk)), Kd.fresh' (Kd.N_lt (mvN_ HO265.out)) k_ hk, Kd.freshB (g := gb251) (o := .cells #[.slice A2_0 l2_0.length c2_0, .slice A2_1 l2_1.length c2_1] 25 (0, 0)) (mvK_ BK251.out) k_ hk⟩))
              (case aO => exact (by (with_reducible repeat (first | apply Kd.N_alloc | apply Kd.N_drewN | apply Kd.N_drew)); exact Kd.N_mono HO259.out (fun _ hk => ⟨hk.1.1, ⟨hk.2, hk.1.2⟩⟩)))
              (case aS => exact (below_size (bq1_ HB.out GE251.out)))
              (case aL => have := LMc27.out; omega)
              intro v261 w34 ho hb hg hat
              rw [← Ny260.out] at ho
              have n0_ := Aside0.mk (Kd.V_afterv (ok := (fun k_ => ((P0_ k_ ∨ P2_0_ k_ ∨ P2_1_ k_) ∨ w.heap.size ≤ k_) ∧ some k_ ≠ (v264 : Value).ownBlock ∧ k_ ≠ gb251)) (by (with_reducible repeat (first | apply Kd.V_alloc | apply Kd.V_drewN | apply Kd.V_drew)); exact Kd.V_mono HO_0.out (fun _ hk => ⟨⟨hk.1.1.1, ⟨hk.2, hk.1.1.2⟩⟩, hk.1.2⟩)) hg hat)
              have n1_ := Aside0.mk (Kd.V_afterv (ok := (fun k_ => ((P0_ k_ ∨ P2_0_ k_ ∨ P2_1_ k_) ∨ w.heap.size ≤ k_) ∧ some k_ ≠ (v264 : Value).ownBlock ∧ k_ ≠ gb251)) (by (with_reducible repeat (first | apply Kd.V_alloc | apply Kd.V_drewN | apply Kd.V_drew)); exact Kd.V_mono HO_252000.out (fun _ hk => ⟨⟨hk.1.1.1, ⟨hk.2, hk.1.1.2⟩⟩, hk.1.2⟩)) hg hat)
              have n2_ := Aside0.mk (Kd.V_afterv (ok := (fun k_ => ((P0_ k_ ∨ P2_0_ k_ ∨ P2_1_ k_) ∨ w.heap.size ≤ k_) ∧ some k_ ≠ (v264 : Value).ownBlock ∧ k_ ≠ gb251)) (by (with_reducible repeat (first | apply Kd.V_alloc | apply Kd.V_drewN | apply Kd.V_drew)); exact Kd.V_mono HO_252001.out (fun _ hk => ⟨⟨hk.1.1.1, ⟨hk.2, hk.1.1.2⟩⟩, hk.1.2⟩)) hg hat)
              have n3_ := Aside0.mk (blk_grown (g := gb251) (o := .cells #[.slice A2_0 l2_0.length c2_0, .slice A2_1 l2_1.length c2_1] 25 (0, 0)) (mvK_ BK251.out) hg (Kd.N_ne HO259.out BK251.out (by decide)))
              have n4_ := Aside0.mk (Kd.N_afterv (ok := (fun k_ => ((P0_ k_ ∨ P2_0_ k_ ∨ P2_1_ k_) ∨ w.heap.size ≤ k_) ∧ k_ ≠ gb251)) (by (with_reducible repeat (first | apply Kd.N_alloc | apply Kd.N_drewN | apply Kd.N_drew)); exact Kd.N_mono HO265.out (fun _ hk => ⟨⟨hk.1, hk.2.2⟩, hk.2.1⟩)) hg hat)
              have n5_ := Aside0.mk (hb)
              have n6_ := Aside0.mk (ho)
              clear HO_0 HO_252000 HO_252001 BK251 HO265 HB HO259
              have HO_0 := n0_
              have HO_252000 := n1_
              have HO_252001 := n2_
              have BK251 := n3_
              have HO265 := n4_
              have HB := n5_
              have HO262 := n6_
              clear n0_ n1_ n2_ n3_ n4_ n5_ n6_ ho hb hg hat
              refine hK.out _ _ ⟨(blk_cell BK251.out 0).trans rfl, (blk_cell BK251.out 1).trans rfl⟩ (fun hHeld => ?_)
              clear hK K
              refine norm_ (a' := ?_) ?_ ?_
              rotate_left
              ·show Act.put _ (some 61) _ = _
               simp only [Act.put, sA_, sB_, sC_, i64_w, i32_w]
               rfl
              exact norm_ (by simp only [putAll, Act.put, sA_, sB_, sC_]) (hCont (v258, v261, v264) _ ⟨hHeld, (mvN_ HO262.out), (by (with_reducible repeat (first | apply Kd.N_alloc | apply Kd.N_drewN | apply Kd.N_drew)); exact Kd.N_mono HO265.out (fun _ hk => ⟨hk.1.1, ⟨hk.2, hk.1.2⟩⟩)), (by (with_reducible repeat (first | apply Kd.V_alloc | apply Kd.V_drewN | apply Kd.V_drew)); exact Kd.V_mono HO_0.out (fun _ hk => ⟨hk.1.1, ⟨hk.2, ⟨hk.1.2.1, hk.1.2.2⟩⟩⟩)), (by (with_reducible repeat (first | apply Kd.V_alloc | apply Kd.V_drewN | apply Kd.V_drew)); exact Kd.V_mono HO_252000.out (fun _ hk => ⟨hk.1.1, ⟨hk.2, ⟨hk.1.2.1, hk.1.2.2⟩⟩⟩)), (by (with_reducible repeat (first | apply Kd.V_alloc | apply Kd.V_drewN | apply Kd.V_drew)); exact Kd.V_mono HO_252001.out (fun _ hk => ⟨hk.1.1, ⟨hk.2, ⟨hk.1.2.1, hk.1.2.2⟩⟩⟩)), (mvK_ BK251.out), (bq1_ HB.out GE251.out)⟩)
            ·skip
             refine Kd.N_lit_step k41 _ 41 ?hg (N' := 65) ?hd (xs := ([(⟨a1, (⟨l2_0, l2_1⟩ : S25)⟩ : S41)] : List (S41))) (inner := [.int .i64 a1, .slice A2_0 l2_0.length c2_0, .slice A2_1 l2_1.length c2_1]) (ok := (fun k_ => ((P0_ k_ ∨ P2_0_ k_ ∨ P2_1_ k_) ∨ w.heap.size ≤ k_) ∧ k_ ≠ gb251)) (okp := (fun k_ => ((P0_ k_ ∨ P2_0_ k_ ∨ P2_1_ k_) ∨ w.heap.size ≤ k_) ∧ k_ ≠ gb251)) ?hr ?hp (fun _ hk => hk) ((show ∀ k_, w29.heap.size ≤ k_ → (fun k_ => ((P0_ k_ ∨ P2_0_ k_ ∨ P2_1_ k_) ∨ w.heap.size ≤ k_) ∧ k_ ≠ gb251) k_ from fun k_ hk => ⟨(.inr (Nat.le_trans (below_size (bq1_ HB.out GE251.out)) hk)), Kd.freshB (g := gb251) (o := .cells #[.slice A2_0 l2_0.length c2_0, .slice A2_1 l2_1.length c2_1] 25 (0, 0)) (mvK_ BK251.out) k_ hk⟩) _ (Nat.le_refl _)) (Below.refl _ _) (Nat.le_refl _) (by simp) ?_; (case hd => rfl); (case hg => rfl); (case hr => first | (go_simp; done) | (go_simp; rfl)); (case hp => exact (Reps.c3 (show Kd.FK k41 _ _ (⟨a1, (⟨l2_0, l2_1⟩ : S25)⟩ : S41) [.int .i64 a1, .slice A2_0 l2_0.length c2_0, .slice A2_1 l2_1.length c2_1] from (k41_mkF _ _ (⟨a1, (⟨l2_0, l2_1⟩ : S25)⟩ : S41) (Kd.V_reads' (Kd.V_mono (ok' := (fun k_ => ((P0_ k_ ∨ P2_0_ k_ ∨ P2_1_ k_) ∨ w.heap.size ≤ k_) ∧ k_ ≠ gb251)) (HO_252000.out) (fun k_ hk => ⟨hk.1, hk.2⟩))).2.1 (Kd.V_F (Kd.V_mono (ok' := (fun k_ => ((P0_ k_ ∨ P2_0_ k_ ∨ P2_1_ k_) ∨ w.heap.size ≤ k_) ∧ k_ ≠ gb251)) (HO_252000.out) (fun k_ hk => ⟨hk.1, hk.2⟩))) (Kd.V_reads' (Kd.V_mono (ok' := (fun k_ => ((P0_ k_ ∨ P2_0_ k_ ∨ P2_1_ k_) ∨ w.heap.size ≤ k_) ∧ k_ ≠ gb251)) (HO_252001.out) (fun k_ hk => ⟨hk.1, hk.2⟩))).2.1 (Kd.V_F (Kd.V_mono (ok' := (fun k_ => ((P0_ k_ ∨ P2_0_ k_ ∨ P2_1_ k_) ∨ w.heap.size ≤ k_) ∧ k_ ≠ gb251)) (HO_252001.out) (fun k_ hk => ⟨hk.1, hk.2⟩))))) (Reps.none _ _)))
             intro v264 w30 ho31 hb hg_ hnew_
             clear hg_ hnew_
             (first | rw [← Ny263.out] at ho31 | (simp only [Int.reduceToNat] at ho31; rw [← Ny263.out] at ho31))
             have n0_ := Aside0.mk (Kd.V_elder' (mvV_ HO_0.out) (Kd.N_base ho31) hb)
             have n1_ := Aside0.mk (Kd.V_elder' (mvV_ HO_252000.out) (Kd.N_base ho31) hb)
             have n2_ := Aside0.mk (Kd.V_elder' (mvV_ HO_252001.out) (Kd.N_base ho31) hb)
             have n3_ := Aside0.mk (Kd.N_lower ho31 (below_size (bq1_ HB.out GE251.out)))
             have n4_ := Aside0.mk (blk_below (g := gb251) (o := .cells #[.slice A2_0 l2_0.length c2_0, .slice A2_1 l2_1.length c2_1] 25 (0, 0)) (mvK_ BK251.out) hb)
             have n5_ := Aside0.mk (below_step (bq1_ HB.out GE251.out) hb)
             clear HO_0 HO_252000 HO_252001 BK251 HB
             have HO_0 := n0_
             have HO_252000 := n1_
             have HO_252001 := n2_
             have HO265 := n3_
             have BK251 := n4_
             have HB := n5_
             clear n0_ n1_ n2_ n3_ n4_ n5_ hb ho31
             refine hK.out _ _ ⟨(blk_cell BK251.out 0).trans rfl, (blk_cell BK251.out 1).trans rfl⟩ (fun hHeld => ?_)
             clear hK K
             refine norm_ (a' := ?_) ?_ ?_
             rotate_left
             ·show Act.put _ (some 65) _ = _
              simp only [Act.put, sA_, sB_, sC_, i64_w, i32_w]
              rfl
             refine one_ (i := 0) (N := some 59) L14_24 rfl rfl (one_of HT_.out (by kernel_rfl)) (by decide) (fun K hK => ?_)
             refine Kd.N_lit_step k41 _ 41 ?hg (N' := 59) ?hd (xs := ([] : List (S41))) (inner := []) (ok := (fun k_ => ((P0_ k_ ∨ P2_0_ k_ ∨ P2_1_ k_) ∨ w.heap.size ≤ k_) ∧ some k_ ≠ (v264 : Value).ownBlock ∧ k_ ≠ gb251)) (okp := (fun k_ => ((P0_ k_ ∨ P2_0_ k_ ∨ P2_1_ k_) ∨ w.heap.size ≤ k_) ∧ some k_ ≠ (v264 : Value).ownBlock ∧ k_ ≠ gb251)) ?hr ?hp (fun _ hk => hk) ((show ∀ k_, w30.heap.size ≤ k_ → (fun k_ => ((P0_ k_ ∨ P2_0_ k_ ∨ P2_1_ k_) ∨ w.heap.size ≤ k_) ∧ some k_ ≠ (v264 : Value).ownBlock ∧ k_ ≠ gb251) k_ from fun k_ hk => ⟨(.inr (Nat.le_trans (below_size (bq1_ HB.out GE251.out)) hk)), Kd.fresh' (Kd.N_lt (mvN_ HO265.out)) k_ hk, Kd.freshB (g := gb251) (o := .cells #[.slice A2_0 l2_0.length c2_0, .slice A2_1 l2_1.length c2_1] 25 (0, 0)) (mvK_ BK251.out) k_ hk⟩) _ (Nat.le_refl _)) (Below.refl _ _) (Nat.le_refl _) (by simp) ?_; (case hd => rfl); (case hg => rfl); (case hr => first | (go_simp; done) | (go_simp; rfl)); (case hp => exact (Reps.none _ _))
             intro v258 w32 ho33 hb hg_ hnew_
             clear hg_ hnew_
             (first | rw [← Ny257.out] at ho33 | (simp only [Int.reduceToNat] at ho33; rw [← Ny257.out] at ho33))
             have n0_ := Aside0.mk (Kd.V_elder' (mvV_ HO_0.out) (Kd.N_base ho33) hb)
             have n1_ := Aside0.mk (Kd.V_elder' (mvV_ HO_252000.out) (Kd.N_base ho33) hb)
             have n2_ := Aside0.mk (Kd.V_elder' (mvV_ HO_252001.out) (Kd.N_base ho33) hb)
             have n3_ := Aside0.mk (Kd.N_elder' (mvN_ HO265.out) (Kd.N_base ho33) hb)
             have n4_ := Aside0.mk (Kd.N_lower ho33 (below_size (bq1_ HB.out GE251.out)))
             have n5_ := Aside0.mk (blk_below (g := gb251) (o := .cells #[.slice A2_0 l2_0.length c2_0, .slice A2_1 l2_1.length c2_1] 25 (0, 0)) (mvK_ BK251.out) hb)
             have n6_ := Aside0.mk (below_step (bq1_ HB.out GE251.out) hb)
             clear HO_0 HO_252000 HO_252001 HO265 BK251 HB
             have HO_0 := n0_
             have HO_252000 := n1_
             have HO_252001 := n2_
             have HO265 := n3_
             have HO259 := n4_
             have BK251 := n5_
             have HB := n6_
             clear n0_ n1_ n2_ n3_ n4_ n5_ n6_ hb ho33
             refine hK.out _ _ ⟨(blk_cell BK251.out 0).trans rfl, (blk_cell BK251.out 1).trans rfl⟩ (fun hHeld => ?_)
             clear hK K
             refine norm_ (a' := ?_) ?_ ?_
             rotate_left
             ·show Act.put _ (some 59) _ = _
              simp only [Act.put, sA_, sB_, sC_, i64_w, i32_w]
              rfl
             refine one_ (i := 2) (N := some 61) L14_20 rfl rfl (one_of HT_.out (by kernel_rfl)) (by decide) (fun K hK => ?_)
             refine Kd.N_append_rows_step k41 (w0 := w) w.heap.size (by rfl) (.tmp 59) (.tmp 60) 22 41 (.agg #[(.int .i64 0), (.slice none 0 0), (.slice none 0 0)]) 56 rfl Try.underlying22 info41 rfl (by decide) (by omega) v258 y257 l0 _ _ _ (fun k_ => ((P0_ k_ ∨ P2_0_ k_ ∨ P2_1_ k_) ∨ w.heap.size ≤ k_) ∧ some k_ ≠ (v264 : Value).ownBlock ∧ k_ ≠ gb251) (fun k_ => ((fun k_ => ((P0_ k_ ∨ P2_0_ k_ ∨ P2_1_ k_) ∨ w.heap.size ≤ k_) ∧ some k_ ≠ (v264 : Value).ownBlock ∧ k_ ≠ gb251)) k_ ∧ some k_ ≠ (v258 : Value).ownBlock) rfl rfl ?aO ?aR (fun _ hk => hk) ?aF ?aB ?aS ?aL ?_
             (case aR => exact (by skip; exact Kd.V_F (Kd.V_mono (ok' := (fun k_ => ((fun k_ => ((P0_ k_ ∨ P2_0_ k_ ∨ P2_1_ k_) ∨ w.heap.size ≤ k_) ∧ some k_ ≠ (v264 : Value).ownBlock ∧ k_ ≠ gb251)) k_ ∧ some k_ ≠ (v258 : Value).ownBlock)) (HO_0.out) (fun k_ hk => ⟨⟨hk.1.1.1, ⟨hk.1.2, hk.1.1.2⟩⟩, hk.2⟩))))
             (case aB => exact (bq1_ HB.out GE251.out))
             (case aF => exact (fun k_ hk => ⟨(.inr (Nat.le_trans (below_size (bq1_ HB.out GE251.out)) hk)), Kd.fresh' (Kd.N_lt (mvN_ HO265.out)) k_ hk, Kd.freshB (g := gb251) (o := .cells #[.slice A2_0 l2_0.length c2_0, .slice A2_1 l2_1.length c2_1] 25 (0, 0)) (mvK_ BK251.out) k_ hk⟩))
             (case aO => exact (mvN_ HO259.out))
             (case aS => exact (below_size (bq1_ HB.out GE251.out)))
             (case aL => have := LMc27.out; omega)
             intro v261 w34 ho hb hg hat
             rw [← Ny260.out] at ho
             have n0_ := Aside0.mk (Kd.V_afterv (ok := (fun k_ => ((P0_ k_ ∨ P2_0_ k_ ∨ P2_1_ k_) ∨ w.heap.size ≤ k_) ∧ some k_ ≠ (v264 : Value).ownBlock ∧ k_ ≠ gb251)) (by (with_reducible repeat (first | apply Kd.V_alloc | apply Kd.V_drewN | apply Kd.V_drew)); exact Kd.V_mono HO_0.out (fun _ hk => ⟨⟨hk.1.1.1, ⟨hk.1.2, hk.1.1.2⟩⟩, hk.2⟩)) hg hat)
             have n1_ := Aside0.mk (Kd.V_afterv (ok := (fun k_ => ((P0_ k_ ∨ P2_0_ k_ ∨ P2_1_ k_) ∨ w.heap.size ≤ k_) ∧ some k_ ≠ (v264 : Value).ownBlock ∧ k_ ≠ gb251)) (by (with_reducible repeat (first | apply Kd.V_alloc | apply Kd.V_drewN | apply Kd.V_drew)); exact Kd.V_mono HO_252000.out (fun _ hk => ⟨⟨hk.1.1.1, ⟨hk.1.2, hk.1.1.2⟩⟩, hk.2⟩)) hg hat)
             have n2_ := Aside0.mk (Kd.V_afterv (ok := (fun k_ => ((P0_ k_ ∨ P2_0_ k_ ∨ P2_1_ k_) ∨ w.heap.size ≤ k_) ∧ some k_ ≠ (v264 : Value).ownBlock ∧ k_ ≠ gb251)) (by (with_reducible repeat (first | apply Kd.V_alloc | apply Kd.V_drewN | apply Kd.V_drew)); exact Kd.V_mono HO_252001.out (fun _ hk => ⟨⟨hk.1.1.1, ⟨hk.1.2, hk.1.1.2⟩⟩, hk.2⟩)) hg hat)
             have n3_ := Aside0.mk (blk_grown (g := gb251) (o := .cells #[.slice A2_0 l2_0.length c2_0, .slice A2_1 l2_1.length c2_1] 25 (0, 0)) (mvK_ BK251.out) hg (Kd.N_ne HO259.out BK251.out (by decide)))
             have n4_ := Aside0.mk (Kd.N_afterv (ok := (fun k_ => ((P0_ k_ ∨ P2_0_ k_ ∨ P2_1_ k_) ∨ w.heap.size ≤ k_) ∧ k_ ≠ gb251)) (mvN_ HO265.out) hg hat)
             have n5_ := Aside0.mk (hb)
             have n6_ := Aside0.mk (ho)
             clear HO_0 HO_252000 HO_252001 BK251 HO265 HB HO259
             have HO_0 := n0_
             have HO_252000 := n1_
             have HO_252001 := n2_
             have BK251 := n3_
             have HO265 := n4_
             have HB := n5_
             have HO262 := n6_
             clear n0_ n1_ n2_ n3_ n4_ n5_ n6_ ho hb hg hat
             refine hK.out _ _ ⟨(blk_cell BK251.out 0).trans rfl, (blk_cell BK251.out 1).trans rfl⟩ (fun hHeld => ?_)
             clear hK K
             refine norm_ (a' := ?_) ?_ ?_
             rotate_left
             ·show Act.put _ (some 61) _ = _
              simp only [Act.put, sA_, sB_, sC_, i64_w, i32_w]
              rfl
             exact norm_ (by simp only [putAll, Act.put, sA_, sB_, sC_]) (hCont (v258, v261, v264) _ ⟨hHeld, (mvN_ HO262.out), (by (with_reducible repeat (first | apply Kd.N_alloc | apply Kd.N_drewN | apply Kd.N_drew)); exact Kd.N_mono HO265.out (fun _ hk => ⟨hk.1.1, ⟨hk.2, hk.1.2⟩⟩)), (by (with_reducible repeat (first | apply Kd.V_alloc | apply Kd.V_drewN | apply Kd.V_drew)); exact Kd.V_mono HO_0.out (fun _ hk => ⟨hk.1.1, ⟨hk.2, ⟨hk.1.2.1, hk.1.2.2⟩⟩⟩)), (by (with_reducible repeat (first | apply Kd.V_alloc | apply Kd.V_drewN | apply Kd.V_drew)); exact Kd.V_mono HO_252000.out (fun _ hk => ⟨hk.1.1, ⟨hk.2, ⟨hk.1.2.1, hk.1.2.2⟩⟩⟩)), (by (with_reducible repeat (first | apply Kd.V_alloc | apply Kd.V_drewN | apply Kd.V_drew)); exact Kd.V_mono HO_252001.out (fun _ hk => ⟨hk.1.1, ⟨hk.2, ⟨hk.1.2.1, hk.1.2.2⟩⟩⟩)), (mvK_ BK251.out), (bq1_ HB.out GE251.out)⟩)
           rintro ⟨v258, v261, v264⟩ w35 ⟨hS_, h0_, h1_, h2_, h3_, h4_, h5_, h6_⟩
           have n0_ : Aside0 (Kd.N k41 41 w35 w.heap.size (fun k_ => ((P0_ k_ ∨ P2_0_ k_ ∨ P2_1_ k_) ∨ w.heap.size ≤ k_) ∧ some k_ ≠ (v264 : Value).ownBlock ∧ k_ ≠ gb251) v261 y260) := ⟨h0_⟩
           have n1_ : Aside0 (Kd.N k41 41 w35 w.heap.size (fun k_ => ((P0_ k_ ∨ P2_0_ k_ ∨ P2_1_ k_) ∨ w.heap.size ≤ k_) ∧ some k_ ≠ (v261 : Value).ownBlock ∧ k_ ≠ gb251) v264 y263) := ⟨h1_⟩
           have n2_ : Aside0 (Kd.V k41 41 w35 w.heap.size (fun k_ => ((P0_ k_ ∨ P2_0_ k_ ∨ P2_1_ k_) ∨ w.heap.size ≤ k_) ∧ some k_ ≠ (v261 : Value).ownBlock ∧ some k_ ≠ (v264 : Value).ownBlock ∧ k_ ≠ gb251) (.slice A0 l0.length c0) l0) := ⟨h2_⟩
           have n3_ : Aside0 (Kd.V (Kd.int .i64) 3 w35 w.heap.size (fun k_ => ((P0_ k_ ∨ P2_0_ k_ ∨ P2_1_ k_) ∨ w.heap.size ≤ k_) ∧ some k_ ≠ (v261 : Value).ownBlock ∧ some k_ ≠ (v264 : Value).ownBlock ∧ k_ ≠ gb251) (.slice A2_0 l2_0.length c2_0) l2_0) := ⟨h3_⟩
           have n4_ : Aside0 (Kd.V (Kd.int .i64) 3 w35 w.heap.size (fun k_ => ((P0_ k_ ∨ P2_0_ k_ ∨ P2_1_ k_) ∨ w.heap.size ≤ k_) ∧ some k_ ≠ (v261 : Value).ownBlock ∧ some k_ ≠ (v264 : Value).ownBlock ∧ k_ ≠ gb251) (.slice A2_1 l2_1.length c2_1) l2_1) := ⟨h4_⟩
           have n5_ : Aside0 (w35.heap[gb251]? = some (.cells #[.slice A2_0 l2_0.length c2_0, .slice A2_1 l2_1.length c2_1] 25 (0, 0))) := ⟨h5_⟩
           have n6_ : Aside0 (Below w.heap.size w w35) := ⟨h6_⟩
           clear HO_0 HO_252000 HO_252001 BK251 HB h0_ h1_ h2_ h3_ h4_ h5_ h6_
           have HO262 := n0_
           have HO265 := n1_
           have HO_0 := n2_
           have HO_252000 := n3_
           have HO_252001 := n4_
           have BK251 := n5_
           have HB := n6_
           clear n0_ n1_ n2_ n3_ n4_ n5_ n6_
           have hHeld : w35.cell? ⟨gb251, 0, none⟩ = some (.slice A2_0 l2_0.length c2_0) ∧ w35.cell? ⟨gb251, 1, none⟩ = some (.slice A2_1 l2_1.length c2_1) := hS_
           obtain ⟨Ao37, co37, eo37⟩ := Kd.N_slice HO265.out
           (first | subst eo37 | (injection eo37 with f1_ f2_ f3_; have f4_ := f1_.symm; have f5_ := f3_.symm; clear f1_ f2_ f3_; subst f4_; subst f5_))
           refine norm_ (a' := ?_) ?_ ?_
           rotate_left
           ·simp only [putAll, Act.put, sA_, sB_, sC_]
            rfl
           refine one_ (i := 7) (N := some 66) L14_25 rfl rfl (one_of HT_.out (by kernel_rfl)) (by decide) (fun K hK => ?_)
           refine Kd.N_append_rows_step k41 (w0 := w) w.heap.size (by rfl) (.tmp 61) (.tmp 65) 22 41 (.agg #[(.int .i64 0), (.slice none 0 0), (.slice none 0 0)]) 56 rfl Try.underlying22 info41 rfl (by decide) (by omega) v261 y260 y263 _ _ _ (fun k_ => ((P0_ k_ ∨ P2_0_ k_ ∨ P2_1_ k_) ∨ w.heap.size ≤ k_) ∧ k_ ≠ gb251) (fun k_ => ((fun k_ => ((P0_ k_ ∨ P2_0_ k_ ∨ P2_1_ k_) ∨ w.heap.size ≤ k_) ∧ k_ ≠ gb251)) k_ ∧ some k_ ≠ (v261 : Value).ownBlock) rfl rfl ?aO ?aR (fun _ hk => hk) ?aF ?aB ?aS ?aL ?_
           (case aR => exact (by skip; exact Kd.N_F (Kd.N_mono (ok' := (fun k_ => ((fun k_ => ((P0_ k_ ∨ P2_0_ k_ ∨ P2_1_ k_) ∨ w.heap.size ≤ k_) ∧ k_ ≠ gb251)) k_ ∧ some k_ ≠ (v261 : Value).ownBlock)) (HO265.out) (fun k_ hk => ⟨⟨hk.1, hk.2.2⟩, hk.2.1⟩))))
           (case aB => exact (bq1_ HB.out GE251.out))
           (case aF => exact (fun k_ hk => ⟨(.inr (Nat.le_trans (below_size (bq1_ HB.out GE251.out)) hk)), Kd.freshB (g := gb251) (o := .cells #[.slice A2_0 l2_0.length c2_0, .slice A2_1 l2_1.length c2_1] 25 (0, 0)) (mvK_ BK251.out) k_ hk⟩))
           (case aO => exact (by (with_reducible repeat (first | apply Kd.N_alloc | apply Kd.N_drewN | apply Kd.N_drew)); exact Kd.N_mono HO262.out (fun _ hk => ⟨hk.1, hk.2.2⟩)))
           (case aS => exact (below_size (bq1_ HB.out GE251.out)))
           (case aL => have := LMc28.out; omega)
           intro v267 w36 ho hb hg hat
           rw [← Ny266.out] at ho
           have n0_ := Aside0.mk (Kd.V_afterv (ok := (fun k_ => ((P0_ k_ ∨ P2_0_ k_ ∨ P2_1_ k_) ∨ w.heap.size ≤ k_) ∧ some k_ ≠ (.slice Ao37 y263.length co37 : Value).ownBlock ∧ k_ ≠ gb251)) (by (with_reducible repeat (first | apply Kd.V_alloc | apply Kd.V_drewN | apply Kd.V_drew)); exact Kd.V_mono HO_0.out (fun _ hk => ⟨⟨hk.1, ⟨hk.2.2.1, hk.2.2.2⟩⟩, hk.2.1⟩)) hg hat)
           have n1_ := Aside0.mk (Kd.V_afterv (ok := (fun k_ => ((P0_ k_ ∨ P2_0_ k_ ∨ P2_1_ k_) ∨ w.heap.size ≤ k_) ∧ some k_ ≠ (.slice Ao37 y263.length co37 : Value).ownBlock ∧ k_ ≠ gb251)) (by (with_reducible repeat (first | apply Kd.V_alloc | apply Kd.V_drewN | apply Kd.V_drew)); exact Kd.V_mono HO_252000.out (fun _ hk => ⟨⟨hk.1, ⟨hk.2.2.1, hk.2.2.2⟩⟩, hk.2.1⟩)) hg hat)
           have n2_ := Aside0.mk (Kd.V_afterv (ok := (fun k_ => ((P0_ k_ ∨ P2_0_ k_ ∨ P2_1_ k_) ∨ w.heap.size ≤ k_) ∧ some k_ ≠ (.slice Ao37 y263.length co37 : Value).ownBlock ∧ k_ ≠ gb251)) (by (with_reducible repeat (first | apply Kd.V_alloc | apply Kd.V_drewN | apply Kd.V_drew)); exact Kd.V_mono HO_252001.out (fun _ hk => ⟨⟨hk.1, ⟨hk.2.2.1, hk.2.2.2⟩⟩, hk.2.1⟩)) hg hat)
           have n3_ := Aside0.mk (blk_grown (g := gb251) (o := .cells #[.slice A2_0 l2_0.length c2_0, .slice A2_1 l2_1.length c2_1] 25 (0, 0)) (mvK_ BK251.out) hg (Kd.N_ne HO262.out BK251.out (by decide)))
           have n4_ := Aside0.mk (Kd.N_afterv (ok := (fun k_ => ((P0_ k_ ∨ P2_0_ k_ ∨ P2_1_ k_) ∨ w.heap.size ≤ k_) ∧ k_ ≠ gb251)) (by (with_reducible repeat (first | apply Kd.N_alloc | apply Kd.N_drewN | apply Kd.N_drew)); exact Kd.N_mono HO265.out (fun _ hk => ⟨⟨hk.1, hk.2.2⟩, hk.2.1⟩)) hg hat)
           have n5_ := Aside0.mk (hb)
           have n6_ := Aside0.mk (ho)
           clear HO_0 HO_252000 HO_252001 BK251 HO265 HB HO262
           have HO_0 := n0_
           have HO_252000 := n1_
           have HO_252001 := n2_
           have BK251 := n3_
           have HO265 := n4_
           have HB := n5_
           have HO268 := n6_
           clear n0_ n1_ n2_ n3_ n4_ n5_ n6_ ho hb hg hat
           refine hK.out _ _ ⟨(blk_cell BK251.out 0).trans rfl, (blk_cell BK251.out 1).trans rfl⟩ (fun hHeld => ?_)
           clear hK K
           refine norm_ (a' := ?_) ?_ ?_
           rotate_left
           ·show Act.put _ (some 66) _ = _
            simp only [Act.put, sA_, sB_, sC_, i64_w, i32_w]
            rfl
           refine pure_ (i := 8) (N := some 6) (v := ?_) (a' := ?_) L14_26 rfl rfl (any_of HT_.out (by kernel_rfl)) (fun _ _ _ h => h) (Or.inl ⟨by rfl, ?_⟩) ?_ ?_
           rotate_left
           ·intro w'
            go_simp
            with_reducible rfl
           rotate_left
           ·simp only [Act.put, sA_, sB_, sC_, i64_w, i32_w]
            rfl
           refine pure_ (i := 9) (N := some 7) (v := ?_) (a' := ?_) L14_27 rfl rfl (any_of HT_.out (by kernel_rfl)) (fun _ _ _ h => h) (Or.inl ⟨by rfl, ?_⟩) ?_ ?_
           rotate_left
           ·intro w'
            go_simp
            with_reducible rfl
           rotate_left
           ·simp only [Act.put, sA_, sB_, sC_, i64_w, i32_w]
            rfl
           refine done_ (done_of HT_.out (by kernel_rfl)) ?_
           try go_wp2
           go_ret2
           exact ⟨_, by first | rfl | (simp [errW_none, errW_some] <;> rfl) | (simp [*, errW_none, errW_some] <;> rfl), Kd.N_V (by (with_reducible repeat (first | apply Kd.N_alloc | apply Kd.N_drewN | apply Kd.N_drew)); exact Kd.N_mono HO268.out (fun _ hk => hk.1)), by repeat (first | (with_reducible first | exact HB.out | apply below_alloc | apply pw_below_drewN | apply below_drew1 | refine below_set ?_ GE251.out) | exact HB.out)⟩
          ·rw [if_neg c28] at H
           exact absurd H (by simp)
         ·rw [if_neg c27] at H
          exact absurd H (by simp)
    ·replace c16 := Bool.eq_false_iff.mpr c16
     subst c16
     have H1 : (some (l0, 30)) = some (r1, r2) := by rw [if_neg (show ¬ (false = true) by decide)] at H; exact H
     clear H
     have H := H1
     clear H1
     simp only [Option.some.injEq, Prod.mk.injEq] at H
     obtain ⟨rfl, rfl⟩ := H
     have hcz38_0 : wc.cell? ⟨gb251, 0, none⟩ = some (.slice A2_0 l2_0.length c2_0) := (blk_cell BK251.out 0).trans rfl
     have hcz38_1 : wc.cell? ⟨gb251, 1, none⟩ = some (.slice A2_1 l2_1.length c2_1) := (blk_cell BK251.out 1).trans rfl
     have hfz38_0 := blk_frozen BK251.out 0
     have hfz38_1 := blk_frozen BK251.out 1
     go_wp2_with (first | ((with_reducible refine gate_callee (f := 30) rfl ?_); refine goesL_ (some 36) rfl rfl Try.func30 (by kernel_rfl) rfl #[.agg #[.slice A2_0 l2_0.length c2_0, .slice A2_1 l2_1.length c2_1]] rfl (by (try simp only [List.map_toArray, List.map_cons, List.map_nil]); first | done | rfl | (simp only [List.length_drop, List.length_take]; rfl)) ?_; (with_reducible refine (fullerref03_Check.calls kj4 _ _ l2_0 _ _ l2_1 false _ ?side1 ?side2 ?side3 ?side4 A15.out).mono ?_); (case side1 => repeat (first | exact (Kd.V_reads' HO_252000.out).2.2 | (with_reducible refine Kd.C_alloc ?_ _) | (with_reducible refine Kd.C_drewN ?_ _) | (with_reducible refine Kd.C_drew ?_))); (case side2 => exact (Kd.V_reads' HO_252000.out).2.1); (case side3 => repeat (first | exact (Kd.V_reads' HO_252001.out).2.2 | (with_reducible refine Kd.C_alloc ?_ _) | (with_reducible refine Kd.C_drewN ?_ _) | (with_reducible refine Kd.C_drew ?_))); (case side4 => exact (Kd.V_reads' HO_252001.out).2.1); rintro e w39 ⟨rfl, hb⟩; refine ⟨_, rfl, ?_⟩; have n0_ := Aside0.mk (Kd.V_below (mvV_ HO_0.out) hb); have n1_ := Aside0.mk (Kd.V_below (mvV_ HO_252000.out) hb); have n2_ := Aside0.mk (Kd.V_below (mvV_ HO_252001.out) hb); have n3_ := Aside0.mk (blk_below (g := gb251) (o := .cells #[.slice A2_0 l2_0.length c2_0, .slice A2_1 l2_1.length c2_1] 25 (0, 0)) (mvK_ BK251.out) hb); have n4_ := Aside0.mk (below_step (bq1_ HB.out GE251.out) hb); clear HO_0; clear HO_252000; clear HO_252001; clear BK251; clear HB; have HO_0 := n0_; have HO_252000 := n1_; have HO_252001 := n2_; have BK251 := n3_; have HB := n4_; clear n0_ n1_ n2_ n3_ n4_; (try clear hb); (try clear hb2); (try clear hk); (try clear hi)))
     go_ret2
     exact ⟨_, by first | rfl | (simp [errW_none, errW_some] <;> rfl) | (simp [*, errW_none, errW_some] <;> rfl), by (with_reducible repeat (first | apply Kd.V_alloc | apply Kd.V_drewN | apply Kd.V_drew)); exact Kd.V_mono HO_0.out (fun _ hk => hk.1), by repeat (first | (with_reducible first | exact HB.out | apply below_alloc | apply pw_below_drewN | apply below_drew1 | refine below_set ?_ GE251.out) | exact HB.out)⟩

end Go.Proofs.Ytdjlpbekoggmiaa.A
