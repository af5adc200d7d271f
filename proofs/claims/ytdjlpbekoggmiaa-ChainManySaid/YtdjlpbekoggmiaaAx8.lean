/- Lean functions that answer as the Go functions do, and the proofs that they do; no conditions. Written by this session's own driver: a scratch copy of the kit's print with the session's additions (wip/xprint). -/
import Derived.Test.YtdjlpbekoggmiaaAx0
import Derived.Test.YtdjlpbekoggmiaaAx2
import Derived.Test.YtdjlpbekoggmiaaAx3
import Derived.Test.YtdjlpbekoggmiaaAx4
import Derived.Test.YtdjlpbekoggmiaaAx6
import Derived.Test.YtdjlpbekoggmiaaAx7
namespace Go.Proofs.Ytdjlpbekoggmiaa.A
open Go.RowKit Go.Proofs.YtdjlpbekoggmiaaW.PrintWords Go.Proofs.YtdjlpbekoggmiaaW.PrintLast Go.Proofs.YtdjlpbekoggmiaaW.PrintMore
attribute [local go_sem] max2_int min2_int max_two min_two max_three min_three max_four min_four   -- for this text's walks alone
set_option linter.unusedVariables false
set_option linter.unusedSimpArgs false

def L13_0 : Array Bool := #[false, false, false, false, false, false, false, false, false, false, false, false, false, false]
def L13_1 : Array Bool := #[true, false, false, false, false, false, false, false, false, false, false, false, false, false]
def L13_2 : Array Bool := #[true, true, false, false, false, false, false, false, false, false, false, false, false, false]
def L13_3 : Array Bool := #[true, true, true, false, false, false, false, false, false, false, false, false, false, false]
def L13_4 : Array Bool := #[true, true, true, true, false, false, false, false, false, false, false, false, false, false]
def L13_5 : Array Bool := #[true, true, true, true, true, false, false, false, false, false, false, false, false, false]
def L13_6 : Array Bool := #[true, true, true, true, true, true, false, false, false, false, false, false, false, false]
def L13_7 : Array Bool := #[true, true, true, true, true, true, true, false, false, false, false, false, false, false]
def L13_8 : Array Bool := #[true, true, true, true, true, true, true, false, true, false, false, false, false, false]
def L13_9 : Array Bool := #[true, true, true, true, true, true, true, true, true, false, false, false, false, false]
def L13_10 : Array Bool := #[true, true, true, true, true, true, true, true, true, true, false, false, false, false]
def L13_11 : Array Bool := #[true, true, true, true, true, true, true, true, true, true, true, false, false, false]
def L13_12 : Array Bool := #[true, true, true, true, true, true, true, true, true, true, true, true, false, false]
def L13_13 : Array Bool := #[true, true, true, true, true, true, true, true, true, true, true, true, true, false]
def L13_14 : Array Bool := #[true, true, true, true, true, true, true, true, true, true, true, true, true, true]
def L13_15 : Array Bool := #[false, false, false, false, false, false, false, false, false, false]
def L13_16 : Array Bool := #[true, false, false, false, false, false, false, false, false, false]
def L13_17 : Array Bool := #[true, false, true, false, false, false, false, false, false, false]
def L13_18 : Array Bool := #[true, false, true, true, false, false, false, false, false, false]
def L13_19 : Array Bool := #[true, true, true, true, false, false, false, false, false, false]
def L13_20 : Array Bool := #[true, true, true, true, true, false, false, false, false, false]
def L13_21 : Array Bool := #[true, true, true, true, true, true, false, false, false, false]
def L13_22 : Array Bool := #[true, true, true, true, true, true, true, false, false, false]
def L13_23 : Array Bool := #[true, true, true, true, true, true, true, true, false, false]
def L13_24 : Array Bool := #[true, true, true, true, true, true, true, true, true, false]
def L13_25 : Array Bool := #[true, true, true, true, true, true, true, true, true, true]
/-! ### chain_Put: function 13 -/
mutual
def chain_Put.j0 : Nat → List (S41) → Int → Int → Bool → List Int → List Int → Option ((List (S41)) × Int)
 | 0, _, _, _, _, _, _ => none
 | k + 1, x0, x1, x8, x11, x139000, x139001 => if x11 = true then (some (x0, 170)) else ((tensor_Check.f k x139000 x139001).bind fun t141 => (if t141 = true then (if x8 > 0 then (if 0 < (x0.length : Int) then ((slices_Equal_int_int.f k ((rd_T41 x0 0).f1.f0) x139000).bind fun t143 => (chain_Put.j1 k x0 x1 x8 (!t143) x139000 x139001)) else (none)) else (chain_Put.j1 k x0 x1 x8 false x139000 x139001)) else (some (x0, 30))))
def chain_Put.j1 : Nat → List (S41) → Int → Int → Bool → List Int → List Int → Option ((List (S41)) × Int)
 | 0, _, _, _, _, _, _ => none
 | k + 1, x0, x1, x8, x39, x139000, x139001 => if x39 = true then (some (x0, 20)) else (if x8 = 16 then (some (x0, 171)) else ((api_Version_29.f x0).bind fun t144 => ((chain_copied.f x139000 x139001).bind fun bt147 => (if t144.length < 2513169434916 then (some ((t144 ++ [(⟨x1, (⟨bt147.1, bt147.2⟩ : S25)⟩ : S41)]), 0)) else (none)))))
end
def chain_Put.f (k : Nat) (l0 : List (S41)) (a1 : Int) (l2_0 : List Int) (l2_1 : List Int) : Option ((List (S41)) × Int) := if a1 < 0 then (chain_Put.j0 k l0 a1 (l0.length : Int) true l2_0 l2_1) else ((chain_Check.f k l0).bind fun t139 => (if t139 = true then (if (l0.length : Int) > 0 then (if 0 ≤ (wrap64 ((l0.length : Int) - 1)) then (if (wrap64 ((l0.length : Int) - 1)) < (l0.length : Int) then (chain_Put.j0 k l0 a1 (l0.length : Int) (decide (((rd_T41 l0 (wrap64 ((l0.length : Int) - 1))).f0) ≥ a1)) l2_0 l2_1) else (none)) else (none)) else (chain_Put.j0 k l0 a1 (l0.length : Int) false l2_0 l2_1)) else (chain_Put.j0 k l0 a1 (l0.length : Int) true l2_0 l2_1)))
theorem chain_Put.mono_l : ∀ k, (∀ y0 y1 y2 y3 y4 y5, LeO (chain_Put.j0 k y0 y1 y2 y3 y4 y5) (chain_Put.j0 (k + 1) y0 y1 y2 y3 y4 y5)) ∧ (∀ y0 y1 y2 y3 y4 y5, LeO (chain_Put.j1 k y0 y1 y2 y3 y4 y5) (chain_Put.j1 (k + 1) y0 y1 y2 y3 y4 y5))
 | 0 => ⟨fun _ _ _ _ _ _ r h => by simp [chain_Put.j0] at h, fun _ _ _ _ _ _ r h => by simp [chain_Put.j1] at h⟩
 | k + 1 => by
  obtain ⟨ih0, ih1⟩ := chain_Put.mono_l k
  refine ⟨?_, ?_⟩
  ·intro y0 y1 y2 y3 y4 y5
   unfold chain_Put.j0
   repeat' first
   | (with_reducible exact ih0 _ _ _ _ _ _)
   | (with_reducible exact ih1 _ _ _ _ _ _)
   | (with_reducible exact chain_Check.mono _ _)
   | (with_reducible exact slices_Equal_int_int.mono _ _ _)
   | (with_reducible exact tensor_Check.mono _ _ _)
   | (with_reducible exact LeO.refl _)
   | (with_reducible exact LeO.none _)
   | (with_reducible refine LeO.ite ?_ ?_)
   | (with_reducible refine LeO.bind ?_ (fun _ => ?_))
   | exact ih0 _ _ _ _ _ _
   | exact ih1 _ _ _ _ _ _
   | exact chain_Check.mono _ _
   | exact slices_Equal_int_int.mono _ _ _
   | exact tensor_Check.mono _ _ _
   | exact LeO.none _
   | refine LeO.ite ?_ ?_
   | refine LeO.bind ?_ (fun _ => ?_)
  ·intro y0 y1 y2 y3 y4 y5
   unfold chain_Put.j1
   repeat' first
   | (with_reducible exact ih0 _ _ _ _ _ _)
   | (with_reducible exact ih1 _ _ _ _ _ _)
   | (with_reducible exact chain_Check.mono _ _)
   | (with_reducible exact slices_Equal_int_int.mono _ _ _)
   | (with_reducible exact tensor_Check.mono _ _ _)
   | (with_reducible exact LeO.refl _)
   | (with_reducible exact LeO.none _)
   | (with_reducible refine LeO.ite ?_ ?_)
   | (with_reducible refine LeO.bind ?_ (fun _ => ?_))
   | exact ih0 _ _ _ _ _ _
   | exact ih1 _ _ _ _ _ _
   | exact chain_Check.mono _ _
   | exact slices_Equal_int_int.mono _ _ _
   | exact tensor_Check.mono _ _ _
   | exact LeO.none _
   | refine LeO.ite ?_ ?_
   | refine LeO.bind ?_ (fun _ => ?_)
theorem chain_Put.mono : ∀ a0 a1 a2 a3 k, LeO (chain_Put.f k a0 a1 a2 a3) (chain_Put.f (k + 1) a0 a1 a2 a3) := by
 intro a0 a1 a2 a3 k
 obtain ⟨ih0, ih1⟩ := chain_Put.mono_l k
 unfold chain_Put.f
 repeat' first
   | (with_reducible exact ih0 _ _ _ _ _ _)
   | (with_reducible exact ih1 _ _ _ _ _ _)
   | (with_reducible exact chain_Check.mono _ _)
   | (with_reducible exact slices_Equal_int_int.mono _ _ _)
   | (with_reducible exact tensor_Check.mono _ _ _)
   | (with_reducible exact LeO.refl _)
   | (with_reducible exact LeO.none _)
   | (with_reducible refine LeO.ite ?_ ?_)
   | (with_reducible refine LeO.bind ?_ (fun _ => ?_))
   | exact ih0 _ _ _ _ _ _
   | exact ih1 _ _ _ _ _ _
   | exact chain_Check.mono _ _
   | exact slices_Equal_int_int.mono _ _ _
   | exact tensor_Check.mono _ _ _
   | exact LeO.none _
   | refine LeO.ite ?_ ?_
   | refine LeO.bind ?_ (fun _ => ?_)
def chain_Put.T6 : Bool × List (List Nat × List Nat) := (true, [([], []), ([0], [0]), ([1], [1]), ([2], [2]), ([3, 2], [2, 3]), ([4, 2], [2, 4]), ([5, 2], [2, 5]), ([6, 2], [2, 6]), ([2], [2]), ([8, 2], [2, 8]), ([7, 9, 2, 2], [2, 7, 9]), ([10, 2], [2, 10]), ([2, 11], [2, 11]), ([12, 10], [12])])
def chain_Put.B6 : List Nat := [0, 1, 3, 7, 15, 31, 63, 127, 7, 263, 1023, 2047, 4095, 8191]
theorem chain_Put.tab6 : rtab .any (opsOf Try.f13 6) = chain_Put.T6 := by kernel_rfl
theorem chain_Put.bits6 : waitsOk chain_Put.T6.2 chain_Put.B6 = true := by kernel_rfl
def chain_Put.T10 : Bool × List (List Nat × List Nat) := (true, [([], []), ([0], [0]), ([], []), ([], []), ([3, 1], [3]), ([2, 4], [2, 4]), ([5], [5]), ([1, 6, 4], [1, 6]), ([7, 7, 0, 1, 2, 3, 4, 5, 6, 7], [7]), ([8, 0, 1, 2, 3, 4, 5, 6, 7, 8], [])])
def chain_Put.B10 : List Nat := [0, 1, 0, 0, 11, 31, 63, 127, 255, 511]
theorem chain_Put.tab10 : rtab .any (opsOf Try.f13 10) = chain_Put.T10 := by kernel_rfl
theorem chain_Put.bits10 : waitsOk chain_Put.T10.2 chain_Put.B10 = true := by kernel_rfl
set_option maxHeartbeats 8000000 in
set_option maxRecDepth 100000 in
theorem chain_Put.calls (k : Nat) (P0_ : Nat → Prop) (A0 : Option Addr) (c0 : Nat) (l0 : List (S41)) (a1 : Int) (A2_0 : Option Addr) (c2_0 : Nat) (l2_0 : List Int) (A2_1 : Option Addr) (c2_1 : Nat) (l2_1 : List Int) (r1 : List (S41)) (r2 : Int) (w : World) (hs0 : Kd.V k41 41 w w.heap.size (fun k_ => P0_ k_) (.slice A0 l0.length c0) l0) (hr2_0 : Kd.C (Kd.int .i64) w A2_0 l2_0.length l2_0) (hc2_0 : l2_0.length ≤ c2_0) (hr2_1 : Kd.C (Kd.int .i64) w A2_1 l2_1.length l2_1) (hc2_1 : l2_1.length ≤ c2_1) (h : chain_Put.f k l0 a1 l2_0 l2_1 = some (r1, r2)) :
  Calls Try.prog 13 #[.slice A0 l0.length c0, .int .i64 a1, .agg #[.slice A2_0 l2_0.length c2_0, .slice A2_1 l2_1.length c2_1]] w fun e w' => ∃ v0_ : Value, e = .returned (.tuple #[v0_, .int .i64 r2]) ∧ Kd.V k41 41 w' w.heap.size (fun k_ => (P0_ k_ ∨ w.heap.size ≤ k_)) v0_ r1 ∧ Below w.heap.size w w' := by
 have hu25 := Try.underlying25
 have hu41 := Try.underlying41
 have HO0 := Aside0.mk (show Kd.V k41 41 w w.heap.size (fun k_ => (P0_ k_ ∨ w.heap.size ≤ k_)) (.slice A0 l0.length c0) l0 from Kd.V_mono hs0 (fun k_ hk => .inl hk))
 have HR2_0 := Aside0.mk hr2_0
 have HC2_0 := Aside0.mk hc2_0
 clear hr2_0 hc2_0
 have HR2_1 := Aside0.mk hr2_1
 have HC2_1 := Aside0.mk hc2_1
 clear hr2_1 hc2_1
 have HB := Aside0.mk (Below.refl w.heap.size w)
 have H : (if a1 < 0 then (chain_Put.j0 k l0 a1 (l0.length : Int) true l2_0 l2_1) else ((chain_Check.f k l0).bind fun t139 => (if t139 = true then (if (l0.length : Int) > 0 then (if 0 ≤ (wrap64 ((l0.length : Int) - 1)) then (if (wrap64 ((l0.length : Int) - 1)) < (l0.length : Int) then (chain_Put.j0 k l0 a1 (l0.length : Int) (decide (((rd_T41 l0 (wrap64 ((l0.length : Int) - 1))).f0) ≥ a1)) l2_0 l2_1) else (none)) else (none)) else (chain_Put.j0 k l0 a1 (l0.length : Int) false l2_0 l2_1)) else (chain_Put.j0 k l0 a1 (l0.length : Int) true l2_0 l2_1)))) = some (r1, r2) := h
 clear h
 have HC4 := Aside0.mk H
 clear H
 go_enter Try.func13, Try.ntmps13
 go_upto_region 2 with (first | ((with_reducible refine gate_dst (N := 5) rfl ?_); refine box_event ?hg (N := 5) ?hd (cs := #[.slice A2_0 l2_0.length c2_0, .slice A2_1 l2_1.length c2_1]) (t := 25) ?hr ?_; (case hd => rfl); (case hg => rfl); (case hr => first | (go_simp; done) | (go_simp; rfl)); intro gb138 hg w5 hbox hb; have n0_ := Aside0.mk (Kd.V_below (Kd.V_elderB (mvV_ HO0.out) gb138 (Nat.le_of_eq hg.symm)) hb); have n1_ := Aside0.mk (below_step (bq0_ HB.out) hb); have n2_ := Aside0.mk (hbox); have n3_ := Aside0.mk ((by rw [hg]; exact (below_size (bq0_ HB.out)) : w.heap.size ≤ gb138)); have n4_ := Aside0.mk ((by rw [hg]; exact (below_size (bq0_ HB.out)) : w.heap.size ≤ gb138)); clear HO0; clear HB; have HO0 := n0_; have HB := n1_; have BK138 := n2_; have GW138 := n3_; have GE138 := n4_; clear n0_ n1_ n2_ n3_ n4_; clear hb hbox hg))
 (try simp only [Act.put, sA_, sB_, sC_])
 go_cut [11] (fun v11 wc => ∃ (kq : Nat) (x11_3 : Bool), v11 = .bool x11_3 ∧ Aside0 (chain_Put.j0 kq l0 a1 (l0.length : Int) x11_3 l2_0 l2_1 = some (r1, r2)) ∧ Aside0 (kq ≤ k) ∧ Aside0 (Kd.V k41 41 wc w.heap.size (fun k_ => (P0_ k_ ∨ w.heap.size ≤ k_) ∧ k_ ≠ gb138) (.slice A0 l0.length c0) l0) ∧ Aside0 (wc.heap[gb138]? = some (.cells #[(.slice A2_0 l2_0.length c2_0), (.slice A2_1 l2_1.length c2_1)] 25 (0, 0))) ∧ Aside0 (Below w.heap.size w wc))
 case first =>
  have H := HC4.out
  clear HC4
  by_cases c6 : a1 < 0
  ·rw [if_pos c6] at H
   have c6b0 : decide (a1 < 0) = true := decide_eq_true c6
   clear c6
   (first | rw [c6b0] | (simp only [i64_w, i32_w]; rw [c6b0]) | skip)
   have H' := Aside0.mk H
   clear H
   go_wp2
   go_meet
   case rel => exact ⟨_, (true), (by first | rfl | (simp; done) | (simp [*]; done)), H', ⟨by first | omega | exact Nat.le_refl _⟩, ⟨by (with_reducible repeat (first | apply Kd.V_alloc | apply Kd.V_drewN | apply Kd.V_drew)); exact HO0.out⟩, ⟨by (with_reducible repeat (first | refine blk_drewN ?_ _ | refine blk_drew ?_ | refine blk_alloc ?_ _)); exact BK138.out⟩, ⟨by repeat (first | (with_reducible first | exact HB.out | apply below_alloc | apply pw_below_drewN | apply below_drew1 | refine below_set ?_ GE138.out) | exact HB.out)⟩⟩
  ·rw [if_neg c6] at H
   have c6b0 : decide (a1 < 0) = false := decide_eq_false c6
   clear c6
   (first | rw [c6b0] | (simp only [i64_w, i32_w]; rw [c6b0]) | skip)
   replace H := Option.bind_eq_some_iff.mp H
   obtain ⟨t139, A70, H⟩ := H
   replace H : (if t139 = true then (if (l0.length : Int) > 0 then (if 0 ≤ (wrap64 ((l0.length : Int) - 1)) then (if (wrap64 ((l0.length : Int) - 1)) < (l0.length : Int) then (chain_Put.j0 k l0 a1 (l0.length : Int) (decide (((rd_T41 l0 (wrap64 ((l0.length : Int) - 1))).f0) ≥ a1)) l2_0 l2_1) else (none)) else (none)) else (chain_Put.j0 k l0 a1 (l0.length : Int) false l2_0 l2_1)) else (chain_Put.j0 k l0 a1 (l0.length : Int) true l2_0 l2_1)) = some (r1, r2) := H
   have A7 := Aside0.mk A70
   clear A70
   by_cases c8 : t139 = true
   ·subst c8
    have H1 : (if (l0.length : Int) > 0 then (if 0 ≤ (wrap64 ((l0.length : Int) - 1)) then (if (wrap64 ((l0.length : Int) - 1)) < (l0.length : Int) then (chain_Put.j0 k l0 a1 (l0.length : Int) (decide (((rd_T41 l0 (wrap64 ((l0.length : Int) - 1))).f0) ≥ a1)) l2_0 l2_1) else (none)) else (none)) else (chain_Put.j0 k l0 a1 (l0.length : Int) false l2_0 l2_1)) = some (r1, r2) := by rw [if_pos rfl] at H; exact H
    clear H
    have H := H1
    clear H1
    by_cases c9 : (l0.length : Int) > 0
    ·rw [if_pos c9] at H
     have c9b0 : decide (0 < (l0.length : Int)) = true := decide_eq_true c9
     have c9b1 : decide (0 < l0.length) = true := decide_eq_true (by omega)
     clear c9
     obtain ⟨ji10, hji10⟩ : ∃ j_ : Int, (wrap64 ((l0.length : Int) - 1)) = j_ := ⟨_, rfl⟩
     replace H : (if 0 ≤ (ji10) then (if (ji10) < (l0.length : Int) then (chain_Put.j0 k l0 a1 (l0.length : Int) (decide (((rd_T41 l0 (ji10)).f0) ≥ a1)) l2_0 l2_1) else (none)) else (none)) = some (r1, r2) := by first | (rw [hji10] at H; exact H) | (simp only [hji10] at H ⊢; exact H)
     (try rw [hji10] at A7)
     have hji10w : (IntKind.i64.wrap ((l0.length : Int) - 1)) = ji10 := (i64_w _).trans hji10
     by_cases c11 : 0 ≤ (ji10)
     ·rw [if_pos c11] at H
      have c11b0 : decide (0 ≤ (ji10)) = true := decide_eq_true c11
      clear c11
      by_cases c12 : (ji10) < (l0.length : Int)
      ·rw [if_pos c12] at H
       have c12b0 : decide ((ji10) < (l0.length : Int)) = true := decide_eq_true c12
       clear c12
       have H' := Aside0.mk H
       clear H
       go_wp2_with (first | (go_at_call 17; (with_reducible refine (chain_Check.calls k _ _ l0 true _ ?side1 ?side2 A7.out).mono ?_); (case side1 => repeat (first | exact (Kd.V_reads' HO0.out).2.2 | (with_reducible refine Kd.C_alloc ?_ _) | (with_reducible refine Kd.C_drewN ?_ _) | (with_reducible refine Kd.C_drew ?_))); (case side2 => exact (Kd.V_reads' HO0.out).2.1); rintro e w13 ⟨rfl, hb⟩; have n0_ := Aside0.mk (Kd.V_below (mvV_ HO0.out) hb); have n1_ := Aside0.mk (blk_below (g := gb138) (o := .cells #[.slice A2_0 l2_0.length c2_0, .slice A2_1 l2_1.length c2_1] 25 (0, 0)) (mvK_ BK138.out) hb); have n2_ := Aside0.mk (below_step (bq1_ HB.out GE138.out) hb); clear HO0; clear BK138; clear HB; have HO0 := n0_; have BK138 := n1_; have HB := n2_; clear n0_ n1_ n2_; (try clear hb); (try clear hb2); (try clear hk); (try clear hi); have p140 : 0 ≤ ((ji10) : Int) := of_decide_eq_true (by first | (with_reducible assumption) | assumption); have q140 : (ji10) < (l0.length : Int) := of_decide_eq_true (by first | (with_reducible assumption) | assumption); obtain ⟨ad140, A140_1, c140_1, A140_2, c140_2, e140, hx140_0, hx140_1, hx140_2, hl140_1, hi140_1, hl140_2, hi140_2⟩ := at_T41 (Kd.V_reads' HO0.out).2.2 (ji10) p140 q140; cases e140; obtain ⟨ce140, hce140, hMe140, hcc140⟩ := Kd.V_get HO0.out z41 (ji10) p140 (by first | exact q140 | exact of_decide_eq_true (by first | (with_reducible assumption) | assumption) | (have e_ := (Kd.V_reads' HO0.out).1; omega)); obtain ⟨ua140_1, uc140_1, ua140_2, uc140_2, rfl, ul140_1, ge140_1, ul140_2, ge140_2⟩ := k41_openF hMe140; have hv140_1 := hcc140 1 _ rfl; rw [add_field _ _ 1 (by omega)] at hv140_1; replace hv140_1 := Option.some.inj (hv140_1.symm.trans hx140_1); injection hv140_1 with hva_ hvn_ hvc_; rw [hva_] at ge140_1; rw [hvc_] at ul140_1; have HL140_1 := Aside0.mk (show Kd.V (Kd.int .i64) 3 _ w.heap.size _ _ ((rd_T41 l0 (ji10)).f1.f0) from Kd.V_mk ul140_1 ge140_1); clear hva_ hvn_ hvc_ ge140_1 ul140_1; have hv140_2 := hcc140 2 _ rfl; rw [add_field _ _ 2 (by omega)] at hv140_2; replace hv140_2 := Option.some.inj (hv140_2.symm.trans hx140_2); injection hv140_2 with hva_ hvn_ hvc_; rw [hva_] at ge140_2; rw [hvc_] at ul140_2; have HL140_2 := Aside0.mk (show Kd.V (Kd.int .i64) 3 _ w.heap.size _ _ ((rd_T41 l0 (ji10)).f1.f1) from Kd.V_mk ul140_2 ge140_2); clear hva_ hvn_ hvc_ ge140_2 ul140_2; clear hcc140 hce140; have HR140_1 := Aside0.mk hi140_1; have HC140_1 := Aside0.mk hl140_1; clear hi140_1 hl140_1; have HR140_2 := Aside0.mk hi140_2; have HC140_2 := Aside0.mk hl140_2; clear hi140_2 hl140_2; replace p140 := eq_true p140; replace q140 := eq_true q140))
       go_meet
       case rel => exact ⟨_, (decide (((rd_T41 l0 (ji10)).f0) ≥ a1)), (by first | rfl | (simp; done) | (simp only [← hji10] <;> (first | rfl | simp)) | (simp [*]; done)), H', ⟨by first | omega | exact Nat.le_refl _⟩, ⟨by (with_reducible repeat (first | apply Kd.V_alloc | apply Kd.V_drewN | apply Kd.V_drew)); exact HO0.out⟩, ⟨by (with_reducible repeat (first | refine blk_drewN ?_ _ | refine blk_drew ?_ | refine blk_alloc ?_ _)); exact BK138.out⟩, ⟨by repeat (first | (with_reducible first | exact HB.out | apply below_alloc | apply pw_below_drewN | apply below_drew1 | refine below_set ?_ GE138.out) | exact HB.out)⟩⟩
      ·rw [if_neg c12] at H
       exact absurd H (by simp)
     ·rw [if_neg c11] at H
      exact absurd H (by simp)
    ·rw [if_neg c9] at H
     have c9b0 : decide (0 < (l0.length : Int)) = false := decide_eq_false c9
     have c9b1 : decide (0 < l0.length) = false := decide_eq_false (by omega)
     clear c9
     have H' := Aside0.mk H
     clear H
     go_wp2_with (first | (go_at_call 17; (with_reducible refine (chain_Check.calls k _ _ l0 true _ ?side1 ?side2 A7.out).mono ?_); (case side1 => repeat (first | exact (Kd.V_reads' HO0.out).2.2 | (with_reducible refine Kd.C_alloc ?_ _) | (with_reducible refine Kd.C_drewN ?_ _) | (with_reducible refine Kd.C_drew ?_))); (case side2 => exact (Kd.V_reads' HO0.out).2.1); rintro e w14 ⟨rfl, hb⟩; have n0_ := Aside0.mk (Kd.V_below (mvV_ HO0.out) hb); have n1_ := Aside0.mk (blk_below (g := gb138) (o := .cells #[.slice A2_0 l2_0.length c2_0, .slice A2_1 l2_1.length c2_1] 25 (0, 0)) (mvK_ BK138.out) hb); have n2_ := Aside0.mk (below_step (bq1_ HB.out GE138.out) hb); clear HO0; clear BK138; clear HB; have HO0 := n0_; have BK138 := n1_; have HB := n2_; clear n0_ n1_ n2_; (try clear hb); (try clear hb2); (try clear hk); (try clear hi)))
     go_meet
     case rel => exact ⟨_, (false), (by first | rfl | (simp; done) | (simp [*]; done)), H', ⟨by first | omega | exact Nat.le_refl _⟩, ⟨by (with_reducible repeat (first | apply Kd.V_alloc | apply Kd.V_drewN | apply Kd.V_drew)); exact HO0.out⟩, ⟨by (with_reducible repeat (first | refine blk_drewN ?_ _ | refine blk_drew ?_ | refine blk_alloc ?_ _)); exact BK138.out⟩, ⟨by repeat (first | (with_reducible first | exact HB.out | apply below_alloc | apply pw_below_drewN | apply below_drew1 | refine below_set ?_ GE138.out) | exact HB.out)⟩⟩
   ·replace c8 := Bool.eq_false_iff.mpr c8
    subst c8
    have H1 : (chain_Put.j0 k l0 a1 (l0.length : Int) true l2_0 l2_1) = some (r1, r2) := by rw [if_neg (show ¬ (false = true) by decide)] at H; exact H
    clear H
    have H := H1
    clear H1
    have H' := Aside0.mk H
    clear H
    go_wp2_with (first | (go_at_call 17; (with_reducible refine (chain_Check.calls k _ _ l0 false _ ?side1 ?side2 A7.out).mono ?_); (case side1 => repeat (first | exact (Kd.V_reads' HO0.out).2.2 | (with_reducible refine Kd.C_alloc ?_ _) | (with_reducible refine Kd.C_drewN ?_ _) | (with_reducible refine Kd.C_drew ?_))); (case side2 => exact (Kd.V_reads' HO0.out).2.1); rintro e w15 ⟨rfl, hb⟩; have n0_ := Aside0.mk (Kd.V_below (mvV_ HO0.out) hb); have n1_ := Aside0.mk (blk_below (g := gb138) (o := .cells #[.slice A2_0 l2_0.length c2_0, .slice A2_1 l2_1.length c2_1] 25 (0, 0)) (mvK_ BK138.out) hb); have n2_ := Aside0.mk (below_step (bq1_ HB.out GE138.out) hb); clear HO0; clear BK138; clear HB; have HO0 := n0_; have BK138 := n1_; have HB := n2_; clear n0_ n1_ n2_; (try clear hb); (try clear hb2); (try clear hk); (try clear hi)))
    go_meet
    case rel => exact ⟨_, (true), (by first | rfl | (simp; done) | (simp [*]; done)), H', ⟨by first | omega | exact Nat.le_refl _⟩, ⟨by (with_reducible repeat (first | apply Kd.V_alloc | apply Kd.V_drewN | apply Kd.V_drew)); exact HO0.out⟩, ⟨by (with_reducible repeat (first | refine blk_drewN ?_ _ | refine blk_drew ?_ | refine blk_alloc ?_ _)); exact BK138.out⟩, ⟨by repeat (first | (with_reducible first | exact HB.out | apply below_alloc | apply pw_below_drewN | apply below_drew1 | refine below_set ?_ GE138.out) | exact HB.out)⟩⟩
 case rest =>
  clear HC4
  try clear c1
  try clear p1
  try clear q1
  try clear hx1
  try clear c2
  try clear p2
  try clear c6
  try clear c6b0
  try clear p6
  try clear c8
  try clear c9
  try clear c9b0
  try clear c9b1
  try clear c11
  try clear c11b0
  try clear c12
  try clear c12b0
  try clear c13
  try clear c14
  try clear p14
  try clear q14
  try clear hx14
  try clear hx140_0
  try clear hx140_1
  try clear hx140_2
  try clear p140
  try clear q140
  obtain ⟨kq, x11_3, rfl, HA, HJ3, HO_0, BK138, HB⟩ := hcut
  cases kq with
  | zero => exact absurd HA.out (by simp [chain_Put.j0])
  | succ kj3 =>
   have H := HA.out
   clear HA
   simp only [chain_Put.j0] at H
   by_cases c16 : x11_3 = true
   ·subst c16
    have H1 : (some (l0, 170)) = some (r1, r2) := by rw [if_pos rfl] at H; exact H
    clear H
    have H := H1
    clear H1
    simp only [Option.some.injEq, Prod.mk.injEq] at H
    obtain ⟨rfl, rfl⟩ := H
    go_wp2
    go_ret2
    exact ⟨_, by first | rfl | (simp [errW_none, errW_some] <;> rfl) | (simp [*, errW_none, errW_some] <;> rfl), by (with_reducible repeat (first | apply Kd.V_alloc | apply Kd.V_drewN | apply Kd.V_drew)); exact Kd.V_mono HO_0.out (fun _ hk => hk.1), by repeat (first | (with_reducible first | exact HB.out | apply below_alloc | apply pw_below_drewN | apply below_drew1 | refine below_set ?_ GE138.out) | exact HB.out)⟩
   ·replace c16 := Bool.eq_false_iff.mpr c16
    subst c16
    have H1 : ((tensor_Check.f kj3 l2_0 l2_1).bind fun t141 => (if t141 = true then (if (l0.length : Int) > 0 then (if 0 < (l0.length : Int) then ((slices_Equal_int_int.f kj3 ((rd_T41 l0 0).f1.f0) l2_0).bind fun t143 => (chain_Put.j1 kj3 l0 a1 (l0.length : Int) (!t143) l2_0 l2_1)) else (none)) else (chain_Put.j1 kj3 l0 a1 (l0.length : Int) false l2_0 l2_1)) else (some (l0, 30)))) = some (r1, r2) := by rw [if_neg (show ¬ (false = true) by decide)] at H; exact H
    clear H
    have H := H1
    clear H1
    replace H := Option.bind_eq_some_iff.mp H
    obtain ⟨t141, A170, H⟩ := H
    replace H : (if t141 = true then (if (l0.length : Int) > 0 then (if 0 < (l0.length : Int) then ((slices_Equal_int_int.f kj3 ((rd_T41 l0 0).f1.f0) l2_0).bind fun t143 => (chain_Put.j1 kj3 l0 a1 (l0.length : Int) (!t143) l2_0 l2_1)) else (none)) else (chain_Put.j1 kj3 l0 a1 (l0.length : Int) false l2_0 l2_1)) else (some (l0, 30))) = some (r1, r2) := H
    have A17 := Aside0.mk A170
    clear A170
    by_cases c18 : t141 = true
    ·subst c18
     have H1 : (if (l0.length : Int) > 0 then (if 0 < (l0.length : Int) then ((slices_Equal_int_int.f kj3 ((rd_T41 l0 0).f1.f0) l2_0).bind fun t143 => (chain_Put.j1 kj3 l0 a1 (l0.length : Int) (!t143) l2_0 l2_1)) else (none)) else (chain_Put.j1 kj3 l0 a1 (l0.length : Int) false l2_0 l2_1)) = some (r1, r2) := by rw [if_pos rfl] at H; exact H
     clear H
     have H := H1
     clear H1
     have HC19 := Aside0.mk H
     clear H
     have hcz20_0 : wc.cell? ⟨gb138, 0, none⟩ = some (.slice A2_0 l2_0.length c2_0) := (blk_cell BK138.out 0).trans rfl
     have hcz20_1 : wc.cell? ⟨gb138, 1, none⟩ = some (.slice A2_1 l2_1.length c2_1) := (blk_cell BK138.out 1).trans rfl
     have hfz20_0 := blk_frozen BK138.out 0
     have hfz20_1 := blk_frozen BK138.out 1
     go_upto_region 6 with (first | ((with_reducible refine gate_callee (f := 27) rfl ?_); refine goesL_ (some 36) rfl rfl Try.func27 (by kernel_rfl) rfl #[.agg #[.slice A2_0 l2_0.length c2_0, .slice A2_1 l2_1.length c2_1]] rfl (by (try simp only [List.map_toArray, List.map_cons, List.map_nil]); first | done | rfl | (simp only [List.length_drop, List.length_take]; rfl)) ?_; (with_reducible refine (tensor_Check.calls kj3 _ _ l2_0 _ _ l2_1 true _ ?side1 ?side2 ?side3 ?side4 A17.out).mono ?_); (case side1 => repeat (first | exact (Kd.C_below HR2_0.out HB.out) | (with_reducible refine Kd.C_alloc ?_ _) | (with_reducible refine Kd.C_drewN ?_ _) | (with_reducible refine Kd.C_drew ?_))); (case side2 => exact HC2_0.out); (case side3 => repeat (first | exact (Kd.C_below HR2_1.out HB.out) | (with_reducible refine Kd.C_alloc ?_ _) | (with_reducible refine Kd.C_drewN ?_ _) | (with_reducible refine Kd.C_drew ?_))); (case side4 => exact HC2_1.out); rintro e w21 ⟨rfl, hb⟩; refine ⟨_, rfl, ?_⟩; have n0_ := Aside0.mk (Kd.V_below (mvV_ HO_0.out) hb); have n1_ := Aside0.mk (blk_below (g := gb138) (o := .cells #[.slice A2_0 l2_0.length c2_0, .slice A2_1 l2_1.length c2_1] 25 (0, 0)) (mvK_ BK138.out) hb); have n2_ := Aside0.mk (below_step (bq1_ HB.out GE138.out) hb); clear HO_0; clear BK138; clear HB; have HO_0 := n0_; have BK138 := n1_; have HB := n2_; clear n0_ n1_ n2_; (try clear hb); (try clear hb2); (try clear hk); (try clear hi)))
     (try simp only [Act.put, sA_, sB_, sC_])
     go_cut [39] (fun v39 wc => ∃ (kq : Nat) (x39_18 : Bool), v39 = .bool x39_18 ∧ Aside0 (chain_Put.j1 kq l0 a1 (l0.length : Int) x39_18 l2_0 l2_1 = some (r1, r2)) ∧ Aside0 (kq ≤ kj3) ∧ Aside0 (Kd.V k41 41 wc w.heap.size (fun k_ => (P0_ k_ ∨ w.heap.size ≤ k_) ∧ k_ ≠ gb138) (.slice A0 l0.length c0) l0) ∧ Aside0 (wc.heap[gb138]? = some (.cells #[(.slice A2_0 l2_0.length c2_0), (.slice A2_1 l2_1.length c2_1)] 25 (0, 0))) ∧ Aside0 (Below w.heap.size w wc))
     case first =>
      have H := HC19.out
      clear HC19
      by_cases c22 : (l0.length : Int) > 0
      ·rw [if_pos c22] at H
       have c22b0 : decide (0 < (l0.length : Int)) = true := decide_eq_true c22
       have c22b1 : decide (0 < l0.length) = true := decide_eq_true (by omega)
       clear c22
       (first | rw [c22b0] | (simp only [i64_w, i32_w]; rw [c22b0]) | skip)
       by_cases c23 : 0 < (l0.length : Int)
       ·rw [if_pos c23] at H
        have c23b0 : decide (0 < (l0.length : Int)) = true := decide_eq_true c23
        have c23b1 : decide (0 < l0.length) = true := decide_eq_true (by omega)
        clear c23
        replace H := Option.bind_eq_some_iff.mp H
        obtain ⟨t143, A240, H⟩ := H
        replace H : (chain_Put.j1 kj3 l0 a1 (l0.length : Int) (!t143) l2_0 l2_1) = some (r1, r2) := H
        have A24 := Aside0.mk A240
        clear A240
        have H' := Aside0.mk H
        clear H
        try go_wp2
        have n0_ := Aside0.mk (Kd.V_drew HO_0.out)
        have n1_ := Aside0.mk (blk_drew BK138.out)
        have n2_ := Aside0.mk (below_drew1 HB.out)
        clear HO_0 BK138 HB
        have HO_0 := n0_
        have BK138 := n1_
        have HB := n2_
        clear n0_ n1_ n2_
        have p142 : 0 ≤ (0 : Int) := (by omega)
        have q142 : 0 < (l0.length : Int) := of_decide_eq_true (by first | (with_reducible assumption) | assumption)
        obtain ⟨ad142, A142_1, c142_1, A142_2, c142_2, e142, hx142_0, hx142_1, hx142_2, hl142_1, hi142_1, hl142_2, hi142_2⟩ := at_T41 (Kd.V_reads' HO_0.out).2.2 0 p142 q142
        cases e142
        obtain ⟨ce142, hce142, hMe142, hcc142⟩ := Kd.V_get HO_0.out z41 0 p142 (by first | exact q142 | exact of_decide_eq_true (by first | (with_reducible assumption) | assumption) | (have e_ := (Kd.V_reads' HO_0.out).1; omega))
        obtain ⟨ua142_1, uc142_1, ua142_2, uc142_2, rfl, ul142_1, ge142_1, ul142_2, ge142_2⟩ := k41_openF hMe142
        have hv142_1 := hcc142 1 _ rfl
        rw [add_field _ _ 1 (by omega)] at hv142_1
        replace hv142_1 := Option.some.inj (hv142_1.symm.trans hx142_1)
        injection hv142_1 with hva_ hvn_ hvc_
        rw [hva_] at ge142_1
        rw [hvc_] at ul142_1
        have HL142_1 := Aside0.mk (show Kd.V (Kd.int .i64) 3 _ w.heap.size _ _ ((rd_T41 l0 0).f1.f0) from Kd.V_mk ul142_1 ge142_1)
        clear hva_ hvn_ hvc_ ge142_1 ul142_1
        have hv142_2 := hcc142 2 _ rfl
        rw [add_field _ _ 2 (by omega)] at hv142_2
        replace hv142_2 := Option.some.inj (hv142_2.symm.trans hx142_2)
        injection hv142_2 with hva_ hvn_ hvc_
        rw [hva_] at ge142_2
        rw [hvc_] at ul142_2
        have HL142_2 := Aside0.mk (show Kd.V (Kd.int .i64) 3 _ w.heap.size _ _ ((rd_T41 l0 0).f1.f1) from Kd.V_mk ul142_2 ge142_2)
        clear hva_ hvn_ hvc_ ge142_2 ul142_2 hcc142 hce142
        have qi142 : (0 < l0.length) = True := eq_true (by omega)
        (try rw [show ((0 : Int)).toNat = 0 from rfl] at hx142_0)
        (try rw [show 0 * 3 = 0 from rfl] at hx142_0)
        (try rw [Addr.add_zero'] at hx142_0)
        (try rw [show ((0 : Int)).toNat = 0 from rfl] at hx142_1)
        (try rw [show 0 * 3 = 0 from rfl] at hx142_1)
        (try rw [Addr.add_zero'] at hx142_1)
        (try rw [show ((0 : Int)).toNat = 0 from rfl] at hx142_2)
        (try rw [show 0 * 3 = 0 from rfl] at hx142_2)
        (try rw [Addr.add_zero'] at hx142_2)
        have HR142_1 := Aside0.mk hi142_1
        have HC142_1 := Aside0.mk hl142_1
        clear hi142_1 hl142_1
        have HR142_2 := Aside0.mk hi142_2
        have HC142_2 := Aside0.mk hl142_2
        clear hi142_2 hl142_2
        replace p142 := eq_true p142
        replace q142 := eq_true q142
        refine start_ (n := 14) (S := fun w' => w'.cell? ⟨gb138, 0, none⟩ = some (.slice A2_0 l2_0.length c2_0) ∧ w'.cell? ⟨gb138, 1, none⟩ = some (.slice A2_1 l2_1.length c2_1) ∧ w'.cell? ad142 = some (.int .i64 ((rd_T41 l0 0).f0)) ∧ w'.cell? ⟨ad142.block, ad142.off + 1, none⟩ = some (.slice A142_1 ((rd_T41 l0 0).f1.f0).length c142_1) ∧ w'.cell? ⟨ad142.block, ad142.off + 2, none⟩ = some (.slice A142_2 ((rd_T41 l0 0).f1.f1).length c142_2)) (ds := []) L13_0 (by kernel_rfl) rfl rfl ⟨(blk_cell BK138.out 0).trans rfl, (blk_cell BK138.out 1).trans rfl, hx142_0, hx142_1, hx142_2⟩ (fun hHeld => ?_); refine with_tabW chain_Put.tab6 chain_Put.bits6 (fun HT_ HW_ => ?_)
        generalize w21.drew = w25 at HO_0 BK138 HB HL142_1 HL142_2 HR142_1 HR142_2 hx142_0 hx142_1 hx142_2 hHeld ⊢
        refine pure_ (i := 0) (N := some 40) (v := ?_) (a' := ?_) L13_1 rfl rfl (any_of HT_.out (by kernel_rfl)) (fun _ _ _ h => h) (Or.inl ⟨by rfl, ?_⟩) ?_ ?_
        rotate_left
        ·intro w'
         go_simp
         with_reducible rfl
        rotate_left
        ·simp only [Act.put, sA_, sB_, sC_, i64_w, i32_w]
         rfl
        refine pure_ (i := 1) (N := some 41) (v := ?_) (a' := ?_) L13_2 rfl rfl (any_of HT_.out (by kernel_rfl)) (fun _ _ _ h => h) (Or.inl ⟨by rfl, ?_⟩) ?_ ?_
        rotate_left
        ·intro w'
         go_simp
         with_reducible rfl
        rotate_left
        ·simp only [Act.put, sA_, sB_, sC_, i64_w, i32_w]
         rfl
        refine pure_ (i := 2) (N := some 42) (v := ?_) (a' := ?_) L13_3 rfl rfl (any_of HT_.out (by kernel_rfl)) (fun _ _ _ h => h) (Or.inl ⟨by rfl, ?_⟩) ?_ ?_
        rotate_left
        ·intro w'
         go_simp
         with_reducible rfl
        rotate_left
        ·simp only [Act.put, sA_, sB_, sC_, i64_w, i32_w]
         rfl
        refine pure_ (i := 3) (N := some 43) (v := ?_) (a' := ?_) L13_4 rfl rfl (any_of HT_.out (by kernel_rfl)) (fun _ _ _ h => h) (Or.inl ⟨by rfl, ?_⟩) ?_ ?_
        rotate_left
        ·intro w'
         go_simp
         with_reducible rfl
        rotate_left
        ·simp only [Act.put, sA_, sB_, sC_, i64_w, i32_w]
         rfl
        refine pure_ (i := 4) (N := some 44) (v := ?_) (a' := ?_) L13_5 rfl rfl (any_of HT_.out (by kernel_rfl)) (fun _ _ _ h => h) (Or.inl ⟨by rfl, ?_⟩) ?_ ?_
        rotate_left
        ·intro w'
         go_simp
         with_reducible rfl
        rotate_left
        ·simp only [Act.put, sA_, sB_, sC_, i64_w, i32_w]
         rfl
        refine pure_ (i := 5) (N := some 45) (v := ?_) (a' := ?_) L13_6 rfl rfl (any_of HT_.out (by kernel_rfl)) (fun _ _ _ h => h) (Or.inl ⟨by rfl, ?_⟩) ?_ ?_
        rotate_left
        ·intro w'
         go_simp
         with_reducible rfl
        rotate_left
        ·simp only [Act.put, sA_, sB_, sC_, i64_w, i32_w]
         rfl
        refine pure_ (i := 6) (N := some 46) (v := ?_) (a' := ?_) L13_7 rfl rfl (any_of HT_.out (by kernel_rfl)) (fun _ _ _ h => h) (Or.inl ⟨by rfl, ?_⟩) ?_ ?_
        rotate_left
        ·intro w'
         go_simp
         with_reducible rfl
        rotate_left
        ·simp only [Act.put, sA_, sB_, sC_, i64_w, i32_w]
         rfl
        refine pure_ (i := 8) (N := some 48) (v := ?_) (a' := ?_) L13_8 rfl rfl (any_of HT_.out (by kernel_rfl)) (fun _ _ _ h => h) (Or.inl ⟨by rfl, ?_⟩) ?_ ?_
        rotate_left
        ·intro w'
         go_simp
         with_reducible rfl
        rotate_left
        ·simp only [Act.put, sA_, sB_, sC_, i64_w, i32_w]
         rfl
        refine take_ (i := 7) (N := some 47) (v := ?_) (a' := ?_) L13_9 rfl rfl (take_ofW HT_.out HW_.out (by kernel_rfl)) (fun _ _ _ h => h) (Or.inl ⟨by rfl, ?_⟩) hHeld ?_ ?_
        rotate_left
        ·rintro w' ⟨s0, s1, s2, s3, s4⟩
         go_simp
         with_reducible rfl
        rotate_left
        ·simp only [Act.put, sA_, sB_, sC_, i64_w, i32_w]
         rfl
        refine take_ (i := 9) (N := some 49) (v := ?_) (a' := ?_) L13_10 rfl rfl (take_ofW HT_.out HW_.out (by kernel_rfl)) (fun _ _ _ h => h) (Or.inl ⟨by rfl, ?_⟩) hHeld ?_ ?_
        rotate_left
        ·rintro w' ⟨s0, s1, s2, s3, s4⟩
         go_simp
         with_reducible rfl
        rotate_left
        ·simp only [Act.put, sA_, sB_, sC_, i64_w, i32_w]
         rfl
        refine one_ (i := 10) (N := some 50) L13_11 rfl rfl (one_of HT_.out (by kernel_rfl)) (by decide) (fun K hK => ?_)
        refine goes_ Try.func28 (by kernel_rfl) rfl #[.slice A142_1 ((rd_T41 l0 0).f1.f0).length c142_1, .slice A2_0 l2_0.length c2_0] (by rfl) rfl rfl (by (try simp only [List.map_toArray, List.map_cons, List.map_nil]); first | done | rfl | (simp only [List.length_drop, List.length_take]; rfl)) ?_
        with_reducible refine (slices_Equal_int_int.calls kj3 _ _ ((rd_T41 l0 0).f1.f0) _ _ l2_0 t143 _ ?side1 ?side2 ?side3 ?side4 A24.out).mono ?_
        (case side1 => repeat (first | exact (by repeat (first | (with_reducible exact HR142_1.out) | (with_reducible refine Kd.C_alloc ?_ _) | (with_reducible refine Kd.C_drewN ?_ _) | (with_reducible refine Kd.C_drew ?_) | exact HR142_1.out)) | (with_reducible refine Kd.C_alloc ?_ _) | (with_reducible refine Kd.C_drewN ?_ _) | (with_reducible refine Kd.C_drew ?_)))
        (case side2 => exact HC142_1.out)
        (case side3 => repeat (first | exact (Kd.C_below HR2_0.out HB.out) | (with_reducible refine Kd.C_alloc ?_ _) | (with_reducible refine Kd.C_drewN ?_ _) | (with_reducible refine Kd.C_drew ?_)))
        (case side4 => exact HC2_0.out)
        rintro e w' ⟨rfl, ⟨nd, rfl⟩⟩
        refine ⟨_, rfl, ?_⟩
        refine hK.out _ _ ⟨(blk_cell BK138.out 0).trans rfl, (blk_cell BK138.out 1).trans rfl, hHeld.2.2.1, hHeld.2.2.2.1, hHeld.2.2.2.2⟩ (fun hHeld => ?_)
        clear hK K
        refine norm_ (a' := ?_) ?_ ?_
        rotate_left
        ·show Act.put _ (some 50) _ = _
         simp only [Act.put, sA_, sB_, sC_, i64_w, i32_w]
         rfl
        refine pure_ (i := 11) (N := some 51) (v := ?_) (a' := ?_) L13_12 rfl rfl (any_of HT_.out (by kernel_rfl)) (fun _ _ _ h => h) (Or.inl ⟨by rfl, ?_⟩) ?_ ?_
        rotate_left
        ·intro w'
         go_simp
         with_reducible rfl
        rotate_left
        ·simp only [Act.put, sA_, sB_, sC_, i64_w, i32_w]
         rfl
        refine pure_ (i := 12) (N := some 52) (v := ?_) (a' := ?_) L13_13 rfl rfl (any_of HT_.out (by kernel_rfl)) (fun _ _ _ h => h) (Or.inl ⟨by rfl, ?_⟩) ?_ ?_
        rotate_left
        ·intro w'
         go_simp
         with_reducible rfl
        rotate_left
        ·simp only [Act.put, sA_, sB_, sC_, i64_w, i32_w]
         rfl
        refine pure_ (i := 13) (N := some 39) (v := ?_) (a' := ?_) L13_14 rfl rfl (any_of HT_.out (by kernel_rfl)) (fun _ _ _ h => h) (Or.inl ⟨by rfl, ?_⟩) ?_ ?_
        rotate_left
        ·intro w'
         go_simp
         with_reducible rfl
        rotate_left
        ·simp only [Act.put, sA_, sB_, sC_, i64_w, i32_w]
         rfl
        refine done_ (done_of HT_.out (by kernel_rfl)) ?_
        try go_wp2
        go_meet
        case rel => exact ⟨_, (!t143), (by first | rfl | (simp; done) | (simp [*]; done)), H', ⟨by have := HJ3.out; first | omega | exact Nat.le_refl _⟩, ⟨by (with_reducible repeat (first | apply Kd.V_alloc | apply Kd.V_drewN | apply Kd.V_drew)); exact HO_0.out⟩, ⟨by (with_reducible repeat (first | refine blk_drewN ?_ _ | refine blk_drew ?_ | refine blk_alloc ?_ _)); exact BK138.out⟩, ⟨by repeat (first | (with_reducible first | exact HB.out | apply below_alloc | apply pw_below_drewN | apply below_drew1 | refine below_set ?_ GE138.out) | exact HB.out)⟩⟩
       ·rw [if_neg c23] at H
        exact absurd H (by simp)
      ·rw [if_neg c22] at H
       have c22b0 : decide (0 < (l0.length : Int)) = false := decide_eq_false c22
       have c22b1 : decide (0 < l0.length) = false := decide_eq_false (by omega)
       clear c22
       (first | rw [c22b0] | (simp only [i64_w, i32_w]; rw [c22b0]) | skip)
       have H' := Aside0.mk H
       clear H
       try go_wp2
       have n0_ := Aside0.mk (Kd.V_drew HO_0.out)
       have n1_ := Aside0.mk (blk_drew BK138.out)
       have n2_ := Aside0.mk (below_drew1 HB.out)
       clear HO_0 BK138 HB
       have HO_0 := n0_
       have BK138 := n1_
       have HB := n2_
       clear n0_ n1_ n2_
       refine start_ (n := 14) (S := fun w' => True) (ds := []) L13_0 (by kernel_rfl) rfl rfl trivial (fun hHeld => ?_); refine with_tabW chain_Put.tab6 chain_Put.bits6 (fun HT_ HW_ => ?_)
       generalize w21.drew = w26 at HO_0 BK138 HB hHeld ⊢
       refine pure_ (i := 0) (N := some 40) (v := ?_) (a' := ?_) L13_1 rfl rfl (any_of HT_.out (by kernel_rfl)) (fun _ _ _ h => h) (Or.inl ⟨by rfl, ?_⟩) ?_ ?_
       rotate_left
       ·intro w'
        go_simp
        with_reducible rfl
       rotate_left
       ·simp only [Act.put, sA_, sB_, sC_, i64_w, i32_w]
        rfl
       refine pure_ (i := 1) (N := some 41) (v := ?_) (a' := ?_) L13_2 rfl rfl (any_of HT_.out (by kernel_rfl)) (fun _ _ _ h => h) (Or.inl ⟨by rfl, ?_⟩) ?_ ?_
       rotate_left
       ·intro w'
        go_simp
        with_reducible rfl
       rotate_left
       ·simp only [Act.put, sA_, sB_, sC_, i64_w, i32_w]
        rfl
       refine pure_ (i := 2) (N := some 42) (v := ?_) (a' := ?_) L13_3 rfl rfl (any_of HT_.out (by kernel_rfl)) (fun _ _ _ h => h) (Or.inl ⟨by rfl, ?_⟩) ?_ ?_
       rotate_left
       ·intro w'
        go_simp
        with_reducible rfl
       rotate_left
       ·simp only [Act.put, sA_, sB_, sC_, i64_w, i32_w]
        rfl
       refine skips_ (fuel := 2) (m := 11) HT_.out (fun _ _ _ _ _ h => h) [(3, 43), (4, 44), (5, 45), (6, 46), (7, 47), (8, 48), (9, 49), (10, 50), (11, 51)] L13_12 rfl (by kernel_rfl) (by kernel_rfl) (a' := ?_) ?_ ?_
       rotate_left
       ·simp only [putU, Act.put, sA_, sB_, sC_]
        rfl
       refine pure_ (i := 12) (N := some 52) (v := ?_) (a' := ?_) L13_13 rfl rfl (any_of HT_.out (by kernel_rfl)) (fun _ _ _ h => h) (Or.inl ⟨by rfl, ?_⟩) ?_ ?_
       rotate_left
       ·intro w'
        go_simp
        with_reducible rfl
       rotate_left
       ·simp only [Act.put, sA_, sB_, sC_, i64_w, i32_w]
        rfl
       refine pure_ (i := 13) (N := some 39) (v := ?_) (a' := ?_) L13_14 rfl rfl (any_of HT_.out (by kernel_rfl)) (fun _ _ _ h => h) (Or.inl ⟨by rfl, ?_⟩) ?_ ?_
       rotate_left
       ·intro w'
        go_simp
        with_reducible rfl
       rotate_left
       ·simp only [Act.put, sA_, sB_, sC_, i64_w, i32_w]
        rfl
       refine done_ (done_of HT_.out (by kernel_rfl)) ?_
       try go_wp2
       go_meet
       case rel => exact ⟨_, (false), (by first | rfl | (simp; done) | (simp [*]; done)), H', ⟨by have := HJ3.out; first | omega | exact Nat.le_refl _⟩, ⟨by (with_reducible repeat (first | apply Kd.V_alloc | apply Kd.V_drewN | apply Kd.V_drew)); exact HO_0.out⟩, ⟨by (with_reducible repeat (first | refine blk_drewN ?_ _ | refine blk_drew ?_ | refine blk_alloc ?_ _)); exact BK138.out⟩, ⟨by repeat (first | (with_reducible first | exact HB.out | apply below_alloc | apply pw_below_drewN | apply below_drew1 | refine below_set ?_ GE138.out) | exact HB.out)⟩⟩
     case rest =>
      clear HC19
      try clear c1
      try clear p1
      try clear q1
      try clear hx1
      try clear qi1
      try clear c2
      try clear p2
      try clear c6
      try clear c6b0
      try clear p6
      try clear c8
      try clear c9
      try clear c9b0
      try clear c9b1
      try clear c11
      try clear c11b0
      try clear c12
      try clear c12b0
      try clear c13
      try clear c14
      try clear p14
      try clear q14
      try clear hx14
      try clear qi14
      try clear c16
      try clear c18
      try clear c22
      try clear c22b0
      try clear c22b1
      try clear c23
      try clear c23b0
      try clear c23b1
      try clear hcz20_0
      try clear hcz20_1
      try clear hfz20_0
      try clear hfz20_1
      try clear hx140_0
      try clear hx140_1
      try clear hx140_2
      try clear hx142_0
      try clear hx142_1
      try clear hx142_2
      try clear p1
      try clear p14
      try clear p140
      try clear p142
      try clear p2
      try clear p6
      try clear q1
      try clear q14
      try clear q140
      try clear q142
      obtain ⟨kq, x39_18, rfl, HA, HJ18, HO_0, BK138, HB⟩ := hcut
      cases kq with
      | zero => exact absurd HA.out (by simp [chain_Put.j1])
      | succ kj18 =>
       have H := HA.out
       clear HA
       simp only [chain_Put.j1] at H
       by_cases c27 : x39_18 = true
       ·subst c27
        have H1 : (some (l0, 20)) = some (r1, r2) := by rw [if_pos rfl] at H; exact H
        clear H
        have H := H1
        clear H1
        simp only [Option.some.injEq, Prod.mk.injEq] at H
        obtain ⟨rfl, rfl⟩ := H
        go_wp2
        go_ret2
        exact ⟨_, by first | rfl | (simp [errW_none, errW_some] <;> rfl) | (simp [*, errW_none, errW_some] <;> rfl), by (with_reducible repeat (first | apply Kd.V_alloc | apply Kd.V_drewN | apply Kd.V_drew)); exact Kd.V_mono HO_0.out (fun _ hk => hk.1), by repeat (first | (with_reducible first | exact HB.out | apply below_alloc | apply pw_below_drewN | apply below_drew1 | refine below_set ?_ GE138.out) | exact HB.out)⟩
       ·replace c27 := Bool.eq_false_iff.mpr c27
        subst c27
        have H1 : (if (l0.length : Int) = 16 then (some (l0, 171)) else ((api_Version_29.f l0).bind fun t144 => ((chain_copied.f l2_0 l2_1).bind fun bt147 => (if t144.length < 2513169434916 then (some ((t144 ++ [(⟨a1, (⟨bt147.1, bt147.2⟩ : S25)⟩ : S41)]), 0)) else (none))))) = some (r1, r2) := by rw [if_neg (show ¬ (false = true) by decide)] at H; exact H
        clear H
        have H := H1
        clear H1
        by_cases c28 : (l0.length : Int) = 16
        ·rw [if_pos c28] at H
         have c28b0 : ((l0.length : Int) == 16) = true := beq_iff_eq.mpr c28
         have c28b1 : ((l0.length : Int) != 16) = false := bne_eq_false_iff_eq.mpr c28
         clear c28
         simp only [Option.some.injEq, Prod.mk.injEq] at H
         obtain ⟨rfl, rfl⟩ := H
         go_wp2
         go_ret2
         exact ⟨_, by first | rfl | (simp [errW_none, errW_some] <;> rfl) | (simp [*, errW_none, errW_some] <;> rfl), by (with_reducible repeat (first | apply Kd.V_alloc | apply Kd.V_drewN | apply Kd.V_drew)); exact Kd.V_mono HO_0.out (fun _ hk => hk.1), by repeat (first | (with_reducible first | exact HB.out | apply below_alloc | apply pw_below_drewN | apply below_drew1 | refine below_set ?_ GE138.out) | exact HB.out)⟩
        ·rw [if_neg c28] at H
         have c28b0 : ((l0.length : Int) == 16) = false := beq_eq_false_iff_ne.mpr c28
         have c28b1 : ((l0.length : Int) != 16) = true := bne_iff_ne.mpr c28
         replace H := Option.bind_eq_some_iff.mp H
         obtain ⟨t144, A290, H⟩ := H
         replace H : ((chain_copied.f l2_0 l2_1).bind fun bt147 => (if t144.length < 2513169434916 then (some ((t144 ++ [(⟨a1, (⟨bt147.1, bt147.2⟩ : S25)⟩ : S41)]), 0)) else (none))) = some (r1, r2) := H
         have A29 := Aside0.mk A290
         clear A290
         replace H := Option.bind_eq_some_iff.mp H
         obtain ⟨⟨t147, t150⟩, A300, H⟩ := H
         replace H : (if t144.length < 2513169434916 then (some ((t144 ++ [(⟨a1, (⟨t147, t150⟩ : S25)⟩ : S41)]), 0)) else (none)) = some (r1, r2) := H
         have A30 := Aside0.mk A300
         clear A300
         by_cases c31 : t144.length < 2513169434916
         ·rw [if_pos c31] at H
          have LMc31 := Aside0.mk c31
          clear c31
          obtain ⟨y153, hy153⟩ : ∃ y_ : List (S41), y_ = (t144 ++ [(⟨a1, (⟨t147, t150⟩ : S25)⟩ : S41)]) := ⟨_, rfl⟩
          replace H : (some (y153, 0)) = some (r1, r2) := by first | (rw [hy153]; with_reducible exact H) | (have H2_ := (Option.bind_some _ _).symm.trans H; rw [hy153]; with_reducible exact H2_) | (have H2_ := (Option.bind_some _ _).symm.trans H; with_reducible exact H2_) | with_reducible exact H | (rw [hy153]; exact H) | exact H
          have Ny153 := Aside0.mk hy153
          clear hy153
          simp only [Option.some.injEq, Prod.mk.injEq] at H
          obtain ⟨rfl, rfl⟩ := H
          try go_wp2
          have n0_ := Aside0.mk (Kd.V_drew HO_0.out)
          have n1_ := Aside0.mk (blk_drew BK138.out)
          have n2_ := Aside0.mk (below_drew1 HB.out)
          clear HO_0 BK138 HB
          have HO_0 := n0_
          have BK138 := n1_
          have HB := n2_
          clear n0_ n1_ n2_
          refine start_ (n := 10) (S := fun w' => w'.cell? ⟨gb138, 0, none⟩ = some (.slice A2_0 l2_0.length c2_0) ∧ w'.cell? ⟨gb138, 1, none⟩ = some (.slice A2_1 l2_1.length c2_1)) (ds := []) L13_15 (by kernel_rfl) rfl rfl ⟨(blk_cell BK138.out 0).trans rfl, (blk_cell BK138.out 1).trans rfl⟩ (fun hHeld => ?_); refine with_tabW chain_Put.tab10 chain_Put.bits10 (fun HT_ HW_ => ?_)
          generalize wc.drew = w32 at HO_0 BK138 HB hHeld ⊢
          refine pure_ (i := 0) (N := some 58) (v := ?_) (a' := ?_) L13_16 rfl rfl (any_of HT_.out (by kernel_rfl)) (fun _ _ _ h => h) (Or.inl ⟨by rfl, ?_⟩) ?_ ?_
          rotate_left
          ·intro w'
           go_simp
           with_reducible rfl
          rotate_left
          ·simp only [Act.put, sA_, sB_, sC_, i64_w, i32_w]
           rfl
          refine pure_ (i := 2) (N := some 60) (v := ?_) (a' := ?_) L13_17 rfl rfl (any_of HT_.out (by kernel_rfl)) (fun _ _ _ h => h) (Or.inl ⟨by rfl, ?_⟩) ?_ ?_
          rotate_left
          ·intro w'
           go_simp
           with_reducible rfl
          rotate_left
          ·simp only [Act.put, sA_, sB_, sC_, i64_w, i32_w]
           rfl
          refine take_ (i := 3) (N := some 61) (v := ?_) (a' := ?_) L13_18 rfl rfl (take_ofW HT_.out HW_.out (by kernel_rfl)) (fun _ _ _ h => h) (Or.inl ⟨by rfl, ?_⟩) hHeld ?_ ?_
          rotate_left
          ·rintro w' ⟨s0, s1⟩
           go_simp
           with_reducible rfl
          rotate_left
          ·simp only [Act.put, sA_, sB_, sC_, i64_w, i32_w]
           rfl
          refine one_ (i := 1) (N := some 59) L13_19 rfl rfl (one_of HT_.out (by kernel_rfl)) (by decide) (fun K hK => ?_)
          refine goes_ Try.func29 (by kernel_rfl) rfl #[.slice A0 l0.length c0] (by rfl) rfl rfl (by (try simp only [List.map_toArray, List.map_cons, List.map_nil]); first | done | rfl | (simp only [List.length_drop, List.length_take]; rfl)) ?_
          with_reducible refine (api_Version_29.calls (fun k_ => ((P0_ k_ ∨ w.heap.size ≤ k_) ∧ k_ ≠ gb138)) _ _ l0 t144 _ ?side1 A29.out).mono ?_
          (case side1 => exact HO_0.out)
          rintro e w33 ⟨v145, rfl, ho0, hb⟩
          refine ⟨_, rfl, ?_⟩
          have n0_ := Aside0.mk (Kd.V_elder' (mvV_ HO_0.out) (Kd.N_base ho0) hb)
          have n1_ := Aside0.mk (Kd.N_lower (Kd.N_mono (ok' := fun k_ => (P0_ k_ ∨ w.heap.size ≤ k_) ∧ k_ ≠ gb138) ho0 (fun k_ hk_ => ⟨Or.elim hk_ (fun hs_ => hs_.1) (fun hn_ => (.inr (Nat.le_trans (below_size (bq1_ HB.out GE138.out)) hn_))), Or.elim hk_ (fun hs_ => hs_.2) (fun hn_ => (Kd.freshB (g := gb138) (o := .cells #[.slice A2_0 l2_0.length c2_0, .slice A2_1 l2_1.length c2_1] 25 (0, 0)) (mvK_ BK138.out) k_ hn_))⟩)) (below_size (bq1_ HB.out GE138.out)))
          have n2_ := Aside0.mk (blk_below (g := gb138) (o := .cells #[.slice A2_0 l2_0.length c2_0, .slice A2_1 l2_1.length c2_1] 25 (0, 0)) (mvK_ BK138.out) hb)
          have n3_ := Aside0.mk (below_step (bq1_ HB.out GE138.out) hb)
          clear HO_0 BK138 HB
          have HO_0 := n0_
          have HO146 := n1_
          have BK138 := n2_
          have HB := n3_
          clear n0_ n1_ n2_ n3_
          (try clear hb)
          (try clear hb2)
          (try clear hk)
          (try clear hi)
          (try clear ho0)
          refine hK.out _ _ ⟨(blk_cell BK138.out 0).trans rfl, (blk_cell BK138.out 1).trans rfl⟩ (fun hHeld => ?_)
          clear hK K
          refine norm_ (a' := ?_) ?_ ?_
          rotate_left
          ·show Act.put _ (some 59) _ = _
           simp only [Act.put, sA_, sB_, sC_, i64_w, i32_w]
           rfl
          refine one_ (i := 4) (N := some 62) L13_20 rfl rfl (one_of HT_.out (by kernel_rfl)) (by decide) (fun K hK => ?_)
          refine goes_ Try.func25 (by kernel_rfl) rfl #[.agg #[.slice A2_0 l2_0.length c2_0, .slice A2_1 l2_1.length c2_1]] (by rfl) rfl rfl (by (try simp only [List.map_toArray, List.map_cons, List.map_nil]); first | done | rfl | (simp only [List.length_drop, List.length_take]; rfl)) ?_
          with_reducible refine (chain_copied.calls _ _ l2_0 _ _ l2_1 t147 t150 _ ?side1 ?side2 ?side3 ?side4 A30.out).mono ?_
          (case side1 => repeat (first | exact (Kd.C_below HR2_0.out HB.out) | (with_reducible refine Kd.C_alloc ?_ _) | (with_reducible refine Kd.C_drewN ?_ _) | (with_reducible refine Kd.C_drew ?_)))
          (case side2 => exact HC2_0.out)
          (case side3 => repeat (first | exact (Kd.C_below HR2_1.out HB.out) | (with_reducible refine Kd.C_alloc ?_ _) | (with_reducible refine Kd.C_drewN ?_ _) | (with_reducible refine Kd.C_drew ?_)))
          (case side4 => exact HC2_1.out)
          rintro e w34 ⟨v148, v151, rfl, ho0, ho1, hb⟩
          refine ⟨_, rfl, ?_⟩
          have n0_ := Aside0.mk (Kd.V_mono (Kd.V_told (Kd.V_told (Kd.V_old (mvV_ HO_0.out) hb) (Kd.R_base ho0)) (Kd.R_base ho1)) (fun _ h_ => h_.1))
          have n1_ := Aside0.mk (Kd.N_mono (Kd.N_told (Kd.N_told (Kd.N_old (mvN_ HO146.out) hb) (Kd.R_base ho0)) (Kd.R_base ho1)) (fun _ h_ => h_.1))
          have n2_ := Aside0.mk (Kd.R_lower (Kd.R_newM (M := fun k_ => (w.heap.size ≤ k_)) ho0 (below_size (bq1_ HB.out GE138.out)) (fun k_ h_ => h_)) (below_size (bq1_ HB.out GE138.out)))
          have n3_ := Aside0.mk (Kd.R_lower (Kd.R_newM (M := fun k_ => (w.heap.size ≤ k_)) ho1 (below_size (bq1_ HB.out GE138.out)) (fun k_ h_ => h_)) (below_size (bq1_ HB.out GE138.out)))
          have n4_ := Aside0.mk (blk_below (g := gb138) (o := .cells #[.slice A2_0 l2_0.length c2_0, .slice A2_1 l2_1.length c2_1] 25 (0, 0)) (mvK_ BK138.out) hb)
          have n5_ := Aside0.mk (below_step (bq1_ HB.out GE138.out) hb)
          clear HO_0 HO146 BK138 HB
          have HO_0 := n0_
          have HO146 := n1_
          have HO149 := n2_
          have HO152 := n3_
          have BK138 := n4_
          have HB := n5_
          clear n0_ n1_ n2_ n3_ n4_ n5_
          (try clear hb)
          (try clear hb2)
          (try clear hk)
          (try clear hi)
          (try clear ho0)
          (try clear ho1)
          obtain ⟨Ao35, co35, eo35⟩ := Kd.R_slice HO152.out
          (first | subst eo35 | (injection eo35 with f1_ f2_ f3_; have f4_ := f1_.symm; have f5_ := f3_.symm; clear f1_ f2_ f3_; subst f4_; subst f5_))
          obtain ⟨Ao36, co36, eo36⟩ := Kd.R_slice HO149.out
          (first | subst eo36 | (injection eo36 with f1_ f2_ f3_; have f4_ := f1_.symm; have f5_ := f3_.symm; clear f1_ f2_ f3_; subst f4_; subst f5_))
          refine hK.out _ _ ⟨(blk_cell BK138.out 0).trans rfl, (blk_cell BK138.out 1).trans rfl⟩ (fun hHeld => ?_)
          clear hK K
          refine norm_ (a' := ?_) ?_ ?_
          rotate_left
          ·show Act.put _ (some 62) _ = _
           simp only [Act.put, sA_, sB_, sC_, i64_w, i32_w]
           rfl
          refine pure_ (i := 5) (N := some 63) (v := ?_) (a' := ?_) L13_21 rfl rfl (any_of HT_.out (by kernel_rfl)) (fun _ _ _ h => h) (Or.inl ⟨by rfl, ?_⟩) ?_ ?_
          rotate_left
          ·intro w'
           go_simp
           with_reducible rfl
          rotate_left
          ·simp only [Act.put, sA_, sB_, sC_, i64_w, i32_w]
           rfl
          refine one_ (i := 6) (N := some 64) L13_22 rfl rfl (one_of HT_.out (by kernel_rfl)) (by decide) (fun K hK => ?_)
          refine value_ (w1 := ?_) (v := ?_) (by rfl) rfl ?_ ?_
          rotate_left 2
          ·go_simp
           constructor
           ·rfl
           ·rfl
          refine hK.out _ _ ⟨(blk_cell (blk_alloc BK138.out _) 0).trans rfl, (blk_cell (blk_alloc BK138.out _) 1).trans rfl⟩ (fun hHeld => ?_)
          clear hK K
          refine norm_ (a' := ?_) ?_ ?_
          rotate_left
          ·show Act.put _ (some 64) _ = _
           simp only [Act.put, sA_, sB_, sC_, i64_w, i32_w]
           rfl
          refine one_ (i := 7) (N := some 65) L13_23 rfl rfl (one_of HT_.out (by kernel_rfl)) (by decide) (fun K hK => ?_)
          refine Kd.N_append_step k41 (w0 := w) w.heap.size (by rfl) (.tmp 59) (.tmp 64) 22 41 (.agg #[(.int .i64 0), (.slice none 0 0), (.slice none 0 0)]) 56 rfl Try.underlying22 info41 rfl (by decide) (by omega) v145 t144 (⟨a1, (⟨t147, t150⟩ : S25)⟩ : S41) [.int .i64 a1, .slice Ao36 t147.length co36, .slice Ao35 t150.length co35] (fun k_ => (P0_ k_ ∨ w.heap.size ≤ k_) ∧ k_ ≠ gb138) (fun k_ => ((fun k_ => (P0_ k_ ∨ w.heap.size ≤ k_) ∧ k_ ≠ gb138)) k_ ∧ some k_ ≠ (v145 : Value).ownBlock) rfl rfl ?aP (fun _ hk => hk) ?aF ?aO ?aB ?aS ?aL ?_
          (case aP => exact (k41_mkF _ _ (⟨a1, (⟨t147, t150⟩ : S25)⟩ : S41) (Kd.R_reads' (Kd.R_mono (ok' := (fun k_ => ((fun k_ => (P0_ k_ ∨ w.heap.size ≤ k_) ∧ k_ ≠ gb138)) k_ ∧ some k_ ≠ (v145 : Value).ownBlock)) (Kd.R_types (Kd.R_apart' (HO149.out) (Kd.N_typed HO146.out) (by decide)) BK138.out (by decide)) (fun k_ hk => ⟨⟨(.inr (hk.1.1.1)), hk.2⟩, hk.1.2⟩))).2.1 (Kd.R_F (Kd.R_mono (ok' := (fun k_ => ((fun k_ => (P0_ k_ ∨ w.heap.size ≤ k_) ∧ k_ ≠ gb138)) k_ ∧ some k_ ≠ (v145 : Value).ownBlock)) (Kd.R_types (Kd.R_apart' (HO149.out) (Kd.N_typed HO146.out) (by decide)) BK138.out (by decide)) (fun k_ hk => ⟨⟨(.inr (hk.1.1.1)), hk.2⟩, hk.1.2⟩))) (Kd.R_reads' (Kd.R_mono (ok' := (fun k_ => ((fun k_ => (P0_ k_ ∨ w.heap.size ≤ k_) ∧ k_ ≠ gb138)) k_ ∧ some k_ ≠ (v145 : Value).ownBlock)) (Kd.R_types (Kd.R_apart' (HO152.out) (Kd.N_typed HO146.out) (by decide)) BK138.out (by decide)) (fun k_ hk => ⟨⟨(.inr (hk.1.1.1)), hk.2⟩, hk.1.2⟩))).2.1 (Kd.R_F (Kd.R_mono (ok' := (fun k_ => ((fun k_ => (P0_ k_ ∨ w.heap.size ≤ k_) ∧ k_ ≠ gb138)) k_ ∧ some k_ ≠ (v145 : Value).ownBlock)) (Kd.R_types (Kd.R_apart' (HO152.out) (Kd.N_typed HO146.out) (by decide)) BK138.out (by decide)) (fun k_ hk => ⟨⟨(.inr (hk.1.1.1)), hk.2⟩, hk.1.2⟩)))))
          (case aB => exact (bq1_ HB.out GE138.out))
          (case aF => exact (fun k_ hk => ⟨(.inr (Nat.le_trans (below_size (bq1_ HB.out GE138.out)) hk)), Kd.freshB (g := gb138) (o := .cells #[.slice A2_0 l2_0.length c2_0, .slice A2_1 l2_1.length c2_1] 25 (0, 0)) (mvK_ BK138.out) k_ hk⟩))
          (case aO => exact (by (with_reducible repeat (first | apply Kd.N_alloc | apply Kd.N_drewN | apply Kd.N_drew)); exact Kd.N_mono HO146.out (fun _ hk => ⟨hk.1.1.1, hk.1.1.2⟩)))
          (case aS => exact (below_size (bq1_ HB.out GE138.out)))
          (case aL => have := LMc31.out; omega)
          intro v154 w37 ho hb hg hat
          rw [← Ny153.out] at ho
          have n0_ := Aside0.mk (Kd.V_afterv (ok := (fun k_ => (P0_ k_ ∨ w.heap.size ≤ k_) ∧ some k_ ≠ (.slice Ao36 t147.length co36 : Value).ownBlock ∧ some k_ ≠ (.slice Ao35 t150.length co35 : Value).ownBlock ∧ k_ ≠ gb138)) (by (with_reducible repeat (first | apply Kd.V_alloc | apply Kd.V_drewN | apply Kd.V_drew)); exact Kd.V_mono HO_0.out (fun _ hk => ⟨⟨hk.1.1.1.1, ⟨hk.1.2, ⟨hk.2, hk.1.1.1.2⟩⟩⟩, hk.1.1.2⟩)) hg hat)
          have n1_ := Aside0.mk (blk_grown (g := gb138) (o := .cells #[.slice A2_0 l2_0.length c2_0, .slice A2_1 l2_1.length c2_1] 25 (0, 0)) (mvK_ BK138.out) hg (Kd.N_ne HO146.out BK138.out (by decide)))
          have n2_ := Aside0.mk (hb)
          have n3_ := Aside0.mk (ho)
          clear HO_0 BK138 HB HO146 HO149 HO152
          have HO_0 := n0_
          have BK138 := n1_
          have HB := n2_
          have HO155 := n3_
          clear n0_ n1_ n2_ n3_ ho hb hg hat
          refine hK.out _ _ ⟨(blk_cell BK138.out 0).trans rfl, (blk_cell BK138.out 1).trans rfl⟩ (fun hHeld => ?_)
          clear hK K
          refine norm_ (a' := ?_) ?_ ?_
          rotate_left
          ·show Act.put _ (some 65) _ = _
           simp only [Act.put, sA_, sB_, sC_, i64_w, i32_w]
           rfl
          refine pure_ (i := 8) (N := some 6) (v := ?_) (a' := ?_) L13_24 rfl rfl (any_of HT_.out (by kernel_rfl)) (fun _ _ _ h => h) (Or.inl ⟨by rfl, ?_⟩) ?_ ?_
          rotate_left
          ·intro w'
           go_simp
           with_reducible rfl
          rotate_left
          ·simp only [Act.put, sA_, sB_, sC_, i64_w, i32_w]
           rfl
          refine pure_ (i := 9) (N := some 7) (v := ?_) (a' := ?_) L13_25 rfl rfl (any_of HT_.out (by kernel_rfl)) (fun _ _ _ h => h) (Or.inl ⟨by rfl, ?_⟩) ?_ ?_
          rotate_left
          ·intro w'
           go_simp
           with_reducible rfl
          rotate_left
          ·simp only [Act.put, sA_, sB_, sC_, i64_w, i32_w]
           rfl
          refine done_ (done_of HT_.out (by kernel_rfl)) ?_
          try go_wp2
          go_ret2
          exact ⟨_, by first | rfl | (simp [errW_none, errW_some] <;> rfl) | (simp [*, errW_none, errW_some] <;> rfl), Kd.N_V (by (with_reducible repeat (first | apply Kd.N_alloc | apply Kd.N_drewN | apply Kd.N_drew)); exact Kd.N_mono HO155.out (fun _ hk => hk.1)), by repeat (first | (with_reducible first | exact HB.out | apply below_alloc | apply pw_below_drewN | apply below_drew1 | refine below_set ?_ GE138.out) | exact HB.out)⟩
         ·rw [if_neg c31] at H
          exact absurd H (by simp)
    ·replace c18 := Bool.eq_false_iff.mpr c18
     subst c18
     have H1 : (some (l0, 30)) = some (r1, r2) := by rw [if_neg (show ¬ (false = true) by decide)] at H; exact H
     clear H
     have H := H1
     clear H1
     simp only [Option.some.injEq, Prod.mk.injEq] at H
     obtain ⟨rfl, rfl⟩ := H
     have hcz38_0 : wc.cell? ⟨gb138, 0, none⟩ = some (.slice A2_0 l2_0.length c2_0) := (blk_cell BK138.out 0).trans rfl
     have hcz38_1 : wc.cell? ⟨gb138, 1, none⟩ = some (.slice A2_1 l2_1.length c2_1) := (blk_cell BK138.out 1).trans rfl
     have hfz38_0 := blk_frozen BK138.out 0
     have hfz38_1 := blk_frozen BK138.out 1
     go_wp2_with (first | ((with_reducible refine gate_callee (f := 27) rfl ?_); refine goesL_ (some 36) rfl rfl Try.func27 (by kernel_rfl) rfl #[.agg #[.slice A2_0 l2_0.length c2_0, .slice A2_1 l2_1.length c2_1]] rfl (by (try simp only [List.map_toArray, List.map_cons, List.map_nil]); first | done | rfl | (simp only [List.length_drop, List.length_take]; rfl)) ?_; (with_reducible refine (tensor_Check.calls kj3 _ _ l2_0 _ _ l2_1 false _ ?side1 ?side2 ?side3 ?side4 A17.out).mono ?_); (case side1 => repeat (first | exact (Kd.C_below HR2_0.out HB.out) | (with_reducible refine Kd.C_alloc ?_ _) | (with_reducible refine Kd.C_drewN ?_ _) | (with_reducible refine Kd.C_drew ?_))); (case side2 => exact HC2_0.out); (case side3 => repeat (first | exact (Kd.C_below HR2_1.out HB.out) | (with_reducible refine Kd.C_alloc ?_ _) | (with_reducible refine Kd.C_drewN ?_ _) | (with_reducible refine Kd.C_drew ?_))); (case side4 => exact HC2_1.out); rintro e w39 ⟨rfl, hb⟩; refine ⟨_, rfl, ?_⟩; have n0_ := Aside0.mk (Kd.V_below (mvV_ HO_0.out) hb); have n1_ := Aside0.mk (blk_below (g := gb138) (o := .cells #[.slice A2_0 l2_0.length c2_0, .slice A2_1 l2_1.length c2_1] 25 (0, 0)) (mvK_ BK138.out) hb); have n2_ := Aside0.mk (below_step (bq1_ HB.out GE138.out) hb); clear HO_0; clear BK138; clear HB; have HO_0 := n0_; have BK138 := n1_; have HB := n2_; clear n0_ n1_ n2_; (try clear hb); (try clear hb2); (try clear hk); (try clear hi)))
     go_ret2
     exact ⟨_, by first | rfl | (simp [errW_none, errW_some] <;> rfl) | (simp [*, errW_none, errW_some] <;> rfl), by (with_reducible repeat (first | apply Kd.V_alloc | apply Kd.V_drewN | apply Kd.V_drew)); exact Kd.V_mono HO_0.out (fun _ hk => hk.1), by repeat (first | (with_reducible first | exact HB.out | apply below_alloc | apply pw_below_drewN | apply below_drew1 | refine below_set ?_ GE138.out) | exact HB.out)⟩

end Go.Proofs.Ytdjlpbekoggmiaa.A
