/- Lean functions that answer as the Go functions do, and the proofs that they do; no conditions. Written by this session's own driver: a scratch copy of the kit's print with the session's additions (wip/xprint). -/
import Derived.Test.YtmolbbebglfhmaaAx0
import Derived.Test.YtmolbbebglfhmaaAx3
import Derived.Test.YtmolbbebglfhmaaAx8
namespace Go.Proofs.Ytmolbbebglfhmaa.A
open Go.RowKit Go.Proofs.YtmolbbebglfhmaaW.PrintWords Go.Proofs.YtmolbbebglfhmaaW.PrintLast Go.Proofs.YtmolbbebglfhmaaW.PrintMore
attribute [local go_sem] max2_int min2_int max_two min_two max_three min_three max_four min_four
set_option linter.unusedVariables false
set_option linter.unusedSimpArgs false
mutual
def store_Sweep.j0 : Nat → Int → List (List (S74)) → Int → List Int → Option ((List (List (S74))) × Int × List Int)
 | 0, _, _, _, _ => none
 | k + 1, x3, x230000, x230001, x230002 => if 0 ≤ (x230000.length : Int) then (if ((x230000.length : Int) : Int).toNat ≤ 11728124029610 then (store_Sweep.l0 k x3 (List.replicate ((x230000.length : Int) : Int).toNat []) x230000 (x230000.length : Int) 0 x230000 x230001 x230002) else (none)) else (none)
def store_Sweep.l0 : Nat → Int → List (List (S74)) → List (List (S74)) → Int → Int → List (List (S74)) → Int → List Int → Option ((List (List (S74))) × Int × List Int)
 | 0, _, _, _, _, _, _, _, _ => none
 | k + 1, x3, x4, x26, x27, x28, x230000, x230001, x230002 => if x28 < x27 then (if 0 ≤ x28 then (if x28 < (x26.length : Int) then ((chain_Trim.f k (rd_L4 x26 x28) x3).bind fun t237 => (if x28 < (x4.length : Int) then (store_Sweep.l0 k x3 (x4.set (x28 : Int).toNat t237) x26 x27 (wrap64 (x28 + 1)) x230000 x230001 x230002) else (none))) else (none)) else (none)) else (some (x4, x230001, x230002))
end
def store_Sweep.f (k : Nat) (l0_0 : List (List (S74))) (a0_1 : Int) (l0_2 : List Int) : Option ((List (List (S74))) × Int × List Int) := (store_Check.f k l0_0 a0_1 l0_2).bind fun t231 => (if t231 = true then (if (l0_2.length : Int) > 0 then (if 0 < (l0_2.length : Int) then (store_Sweep.j0 k (rd l0_2 0) l0_0 a0_1 l0_2) else (none)) else (store_Sweep.j0 k a0_1 l0_0 a0_1 l0_2)) else (some (l0_0, a0_1, l0_2)))
theorem store_Sweep.mono_l : ∀ k, (∀ y0 y1 y2 y3, LeO (store_Sweep.j0 k y0 y1 y2 y3) (store_Sweep.j0 (k + 1) y0 y1 y2 y3)) ∧ (∀ y0 y1 y2 y3 y4 y5 y6 y7, LeO (store_Sweep.l0 k y0 y1 y2 y3 y4 y5 y6 y7) (store_Sweep.l0 (k + 1) y0 y1 y2 y3 y4 y5 y6 y7))
 | 0 => ⟨fun _ _ _ _ r h => by simp [store_Sweep.j0] at h, fun _ _ _ _ _ _ _ _ r h => by simp [store_Sweep.l0] at h⟩
 | k + 1 => by
  obtain ⟨ih0, ih1⟩ := store_Sweep.mono_l k
  refine ⟨?_, ?_⟩
  ·intro y0 y1 y2 y3
   unfold store_Sweep.j0
   repeat' first
    | (with_reducible first | exact ih0 _ _ _ _ | exact ih1 _ _ _ _ _ _ _ _ | exact chain_Trim.mono _ _ _ | exact store_Check.mono _ _ _ _ | exact LeO.refl _ | exact LeO.none _ | refine LeO.ite ?_ ?_ | refine LeO.bind ?_ (fun _ => ?_))
    | first | exact ih0 _ _ _ _ | exact ih1 _ _ _ _ _ _ _ _ | exact chain_Trim.mono _ _ _ | exact store_Check.mono _ _ _ _ | exact LeO.none _ | refine LeO.ite ?_ ?_ | refine LeO.bind ?_ (fun _ => ?_)
  ·intro y0 y1 y2 y3 y4 y5 y6 y7
   unfold store_Sweep.l0
   repeat' first
    | (with_reducible first | exact ih0 _ _ _ _ | exact ih1 _ _ _ _ _ _ _ _ | exact chain_Trim.mono _ _ _ | exact store_Check.mono _ _ _ _ | exact LeO.refl _ | exact LeO.none _ | refine LeO.ite ?_ ?_ | refine LeO.bind ?_ (fun _ => ?_))
    | first | exact ih0 _ _ _ _ | exact ih1 _ _ _ _ _ _ _ _ | exact chain_Trim.mono _ _ _ | exact store_Check.mono _ _ _ _ | exact LeO.none _ | refine LeO.ite ?_ ?_ | refine LeO.bind ?_ (fun _ => ?_)
theorem store_Sweep.mono : ∀ a0 a1 a2 k, LeO (store_Sweep.f k a0 a1 a2) (store_Sweep.f (k + 1) a0 a1 a2) := by
 intro a0 a1 a2 k
 obtain ⟨ih0, ih1⟩ := store_Sweep.mono_l k
 unfold store_Sweep.f
 repeat' first
  | (with_reducible first | exact ih0 _ _ _ _ | exact ih1 _ _ _ _ _ _ _ _ | exact chain_Trim.mono _ _ _ | exact store_Check.mono _ _ _ _ | exact LeO.refl _ | exact LeO.none _ | refine LeO.ite ?_ ?_ | refine LeO.bind ?_ (fun _ => ?_))
  | first | exact ih0 _ _ _ _ | exact ih1 _ _ _ _ _ _ _ _ | exact chain_Trim.mono _ _ _ | exact store_Check.mono _ _ _ _ | exact LeO.none _ | refine LeO.ite ?_ ?_ | refine LeO.bind ?_ (fun _ => ?_)
set_option maxHeartbeats 8000000 in
set_option maxRecDepth 100000 in
theorem store_Sweep.calls (k : Nat) (P0_0_ : Nat → Prop) (A0_0 : Option Addr) (c0_0 : Nat) (l0_0 : List (List (S74))) (a0_1 : Int) (P0_2_ : Nat → Prop) (A0_2 : Option Addr) (c0_2 : Nat) (l0_2 : List Int) (r1 : List (List (S74))) (r2 : Int) (r3 : List Int) (w : World) (hs0_0 : Kd.V (Kd.slice 74 k74) 54 w w.heap.size (fun k_ => P0_0_ k_) (.slice A0_0 l0_0.length c0_0) l0_0) (hs0_2 : Kd.V (Kd.int .i64) 3 w w.heap.size (fun k_ => P0_2_ k_) (.slice A0_2 l0_2.length c0_2) l0_2) (h : store_Sweep.f k l0_0 a0_1 l0_2 = some (r1, r2, r3)) :
  Calls Try.prog 20 #[.agg #[.slice A0_0 l0_0.length c0_0, .int .i64 a0_1, .slice A0_2 l0_2.length c0_2]] w fun e w' => ∃ v0_ v2_ : Value, e = .returned (.agg #[v0_, .int .i64 r2, v2_]) ∧ Kd.V (Kd.slice 74 k74) 54 w' w.heap.size (fun k_ => ((P0_0_ k_ ∨ P0_2_ k_) ∨ w.heap.size ≤ k_)) v0_ r1 ∧ Kd.V (Kd.int .i64) 3 w' w.heap.size (fun k_ => ((P0_0_ k_ ∨ P0_2_ k_) ∨ w.heap.size ≤ k_)) v2_ r3 ∧ Below w.heap.size w w' := by
 have hu25 := Try.underlying25
 have HO0_0 := Aside0.mk (show Kd.V (Kd.slice 74 k74) 54 w w.heap.size (fun k_ => ((P0_0_ k_ ∨ P0_2_ k_) ∨ w.heap.size ≤ k_)) (.slice A0_0 l0_0.length c0_0) l0_0 from Kd.V_mono hs0_0 (fun k_ hk => .inl (.inl hk)))
 have HO0_2 := Aside0.mk (show Kd.V (Kd.int .i64) 3 w w.heap.size (fun k_ => ((P0_0_ k_ ∨ P0_2_ k_) ∨ w.heap.size ≤ k_)) (.slice A0_2 l0_2.length c0_2) l0_2 from Kd.V_mono hs0_2 (fun k_ hk => .inl (.inr hk)))
 have HB := Aside0.mk (Below.refl w.heap.size w)
 have H : ((store_Check.f k l0_0 a0_1 l0_2).bind fun t231 => (if t231 = true then (if (l0_2.length : Int) > 0 then (if 0 < (l0_2.length : Int) then (store_Sweep.j0 k (rd l0_2 0) l0_0 a0_1 l0_2) else (none)) else (store_Sweep.j0 k a0_1 l0_0 a0_1 l0_2)) else (some (l0_0, a0_1, l0_2)))) = some (r1, r2, r3) := h
 clear h
 replace H := Option.bind_eq_some_iff.mp H
 obtain ⟨t231, A20, H⟩ := H
 replace H : (if t231 = true then (if (l0_2.length : Int) > 0 then (if 0 < (l0_2.length : Int) then (store_Sweep.j0 k (rd l0_2 0) l0_0 a0_1 l0_2) else (none)) else (store_Sweep.j0 k a0_1 l0_0 a0_1 l0_2)) else (some (l0_0, a0_1, l0_2))) = some (r1, r2, r3) := H
 have A2 := Aside0.mk A20
 clear A20
 by_cases c3 : t231 = true
 ·subst c3
  have H1 : (if (l0_2.length : Int) > 0 then (if 0 < (l0_2.length : Int) then (store_Sweep.j0 k (rd l0_2 0) l0_0 a0_1 l0_2) else (none)) else (store_Sweep.j0 k a0_1 l0_0 a0_1 l0_2)) = some (r1, r2, r3) := by rw [if_pos rfl] at H; exact H
  clear H
  have H := H1
  clear H1
  have HC4 := Aside0.mk H
  clear H
  go_enter Try.func20, Try.ntmps20
  go_upto_if 16 with (first | ((with_reducible refine gate_dst (N := 1) rfl ?_); refine box_event ?hg (N := 1) ?hd (cs := #[.slice A0_0 l0_0.length c0_0, .int .i64 a0_1, .slice A0_2 l0_2.length c0_2]) (t := 25) ?hr ?_; (case hd => rfl); (case hg => rfl); (case hr => first | (go_simp; done) | (go_simp; rfl)); intro gb229 hg w5 hbox hb; have BK229 := Aside0.mk (hbox); have GW229 := Aside0.mk ((by rw [hg]; exact (below_size (bq0_ HB.out)) : w.heap.size ≤ gb229)); have GE229 := Aside0.mk ((by rw [hg]; exact (below_size (bq0_ HB.out)) : w.heap.size ≤ gb229)); replace HO0_0 := Aside0.mk (Kd.V_below (Kd.V_elderB (mvV_ HO0_0.out) gb229 (Nat.le_of_eq hg.symm)) hb); replace HO0_2 := Aside0.mk (Kd.V_below (Kd.V_elderB (mvV_ HO0_2.out) gb229 (Nat.le_of_eq hg.symm)) hb); replace HB := Aside0.mk (below_step (bq0_ HB.out) hb); clear hb hbox hg) | ((with_reducible refine gate_dst (N := 2) rfl ?_); refine box_event ?hg (N := 2) ?hd (cs := #[.slice none 0 0, .int .i64 0, .slice none 0 0]) (t := 25) ?hr ?_; (case hd => rfl); (case hg => rfl); (case hr => first | (go_simp; done) | (go_simp; rfl)); intro gb230 hg w6 hbox hb; have BK230 := Aside0.mk (hbox); have GW230 := Aside0.mk ((by rw [hg]; exact (below_size (bq1_ HB.out GE229.out)) : w.heap.size ≤ gb230)); have GE230 := Aside0.mk ((by rw [hg]; exact (below_size (bq1_ HB.out GE229.out)) : w.heap.size ≤ gb230)); have NB229_230 := Aside0.mk ((by rw [hg]; exact Nat.ne_of_lt (blk_lt (g := gb229) (o := .cells #[.slice A0_0 l0_0.length c0_0, .int .i64 a0_1, .slice A0_2 l0_2.length c0_2] 25 (0, 0)) (mvK_ BK229.out)) : gb229 ≠ gb230)); have NB230_229 := Aside0.mk ((by rw [hg]; exact Nat.ne_of_gt (blk_lt (g := gb229) (o := .cells #[.slice A0_0 l0_0.length c0_0, .int .i64 a0_1, .slice A0_2 l0_2.length c0_2] 25 (0, 0)) (mvK_ BK229.out)) : gb230 ≠ gb229)); replace HO0_0 := Aside0.mk (Kd.V_below (Kd.V_elderB (mvV_ HO0_0.out) gb230 (Nat.le_of_eq hg.symm)) hb); replace HO0_2 := Aside0.mk (Kd.V_below (Kd.V_elderB (mvV_ HO0_2.out) gb230 (Nat.le_of_eq hg.symm)) hb); replace BK229 := Aside0.mk (blk_below (g := gb229) (o := .cells #[.slice A0_0 l0_0.length c0_0, .int .i64 a0_1, .slice A0_2 l0_2.length c0_2] 25 (0, 0)) (mvK_ BK229.out) hb); replace HB := Aside0.mk (below_step (bq1_ HB.out GE229.out) hb); clear hb hbox hg; have hnb7 := NB229_230.out; have hnc7 := NB230_229.out; have hcz8_0 := hc_ BK229 0; have hcz8_1 := hc_ BK229 1; have hcz8_2 := hc_ BK229 2; have hfz8_0 := blk_frozen BK229.out 0; have hfz8_1 := blk_frozen BK229.out 1; have hfz8_2 := blk_frozen BK229.out 2) | ((with_reducible refine gate_callee (f := 9) rfl ?_); refine gL_ (some 8) Try.func9 #[.agg #[.slice A0_0 l0_0.length c0_0, .int .i64 a0_1, .slice A0_2 l0_2.length c0_2]] ?_; (with_reducible refine (store_Check.calls k _ _ l0_0 a0_1 _ _ l0_2 true _ ?side1 ?side2 ?side3 ?side4 A2.out).mono ?_); (case side1 => exact mvC_ ((Kd.V_reads' HO0_0.out).2.2)); (case side2 => exact (Kd.V_reads' HO0_0.out).2.1); (case side3 => exact mvC_ ((Kd.V_reads' HO0_2.out).2.2)); (case side4 => exact (Kd.V_reads' HO0_2.out).2.1); rintro e w9 ⟨rfl, hb⟩; refine ⟨_, rfl, ?_⟩; replace HO0_0 := Aside0.mk (Kd.V_below (mvV_ HO0_0.out) hb); replace HO0_2 := Aside0.mk (Kd.V_below (mvV_ HO0_2.out) hb); replace BK229 := Aside0.mk (blk_below (g := gb229) (o := .cells #[.slice A0_0 l0_0.length c0_0, .int .i64 a0_1, .slice A0_2 l0_2.length c0_2] 25 (0, 0)) (mvK_ BK229.out) hb); replace BK230 := Aside0.mk (blk_below (g := gb230) (o := .cells #[.slice none 0 0, .int .i64 0, .slice none 0 0] 25 (0, 0)) (mvK_ BK230.out) hb); replace HB := Aside0.mk (below_step (bq2_ HB.out GE229.out GE230.out) hb); (try clear hb); have hcz10_0 := hc_ BK229 0; have hcz10_1 := hc_ BK229 1; have hcz10_2 := hc_ BK229 2; have hfz10_0 := blk_frozen BK229.out 0; have hfz10_1 := blk_frozen BK229.out 1; have hfz10_2 := blk_frozen BK229.out 2))
  (try simp only [Act.put, sA_, sB_, sC_])
  go_cut [3] (fun v3 wc => ∃ (kq : Nat) (x3_3 : Int), v3 = .int .i64 x3_3 ∧ Aside0 (store_Sweep.j0 kq x3_3 l0_0 a0_1 l0_2 = some (r1, r2, r3)) ∧ Aside0 (kq ≤ k) ∧ Aside0 (Kd.V (Kd.slice 74 k74) 54 wc w.heap.size (fun k_ => ((P0_0_ k_ ∨ P0_2_ k_) ∨ w.heap.size ≤ k_) ∧ k_ ≠ gb229 ∧ k_ ≠ gb230) (.slice A0_0 l0_0.length c0_0) l0_0) ∧ Aside0 (Kd.V (Kd.int .i64) 3 wc w.heap.size (fun k_ => ((P0_0_ k_ ∨ P0_2_ k_) ∨ w.heap.size ≤ k_) ∧ k_ ≠ gb229 ∧ k_ ≠ gb230) (.slice A0_2 l0_2.length c0_2) l0_2) ∧ Aside0 (wc.heap[gb229]? = some (.cells #[(.slice A0_0 l0_0.length c0_0), .int .i64 a0_1, (.slice A0_2 l0_2.length c0_2)] 25 (0, 0))) ∧ Aside0 (wc.heap[gb230]? = some (.cells #[(.slice none 0 0), .int .i64 0, (.slice none 0 0)] 25 (0, 0))) ∧ Aside0 (Below w.heap.size w wc))
  case first =>
   have H := HC4.out
   clear HC4
   by_cases c11 : (l0_2.length : Int) > 0
   ·rw [if_pos c11] at H
    have c11b0 : decide (0 < (l0_2.length : Int)) = true := decide_eq_true c11
    have c11b1 : decide (0 < l0_2.length) = true := decide_eq_true (by omega)
    clear c11
    (first | rw [c11b0] | (simp only [i64_w, i32_w]; rw [c11b0]) | rw [c11b1] | skip)
    by_cases c12 : 0 < (l0_2.length : Int)
    ·rw [if_pos c12] at H
     have c12b0 : decide (0 < (l0_2.length : Int)) = true := decide_eq_true c12
     have c12b1 : decide (0 < l0_2.length) = true := decide_eq_true (by omega)
     clear c12
     have H' := Aside0.mk H
     clear H
     have hnb13 := NB229_230.out
     have hnc13 := NB230_229.out
     have hcz14_0 := hc_ BK229 0
     have hcz14_1 := hc_ BK229 1
     have hcz14_2 := hc_ BK229 2
     have hfz14_0 := blk_frozen BK229.out 0
     have hfz14_1 := blk_frozen BK229.out 1
     have hfz14_2 := blk_frozen BK229.out 2
     have p232 : 0 ≤ (0 : Int) := (by omega)
     have q232 : 0 < (l0_2.length : Int) := od_
     obtain ⟨ad232, e232, hx232_0⟩ := Kd.at_int (Kd.V_reads' HO0_2.out).2.2 0 p232 q232
     cases e232
     have qi232 : (0 < l0_2.length) = True := eq_true (by omega)
     (try rw [show ((0 : Int)).toNat = 0 from rfl] at hx232_0)
     (try rw [Addr.add_zero'] at hx232_0)
     replace p232 := eq_true p232
     replace q232 := eq_true q232
     go_wp2
     go_meet
     case rel => exact ⟨_, (rd l0_2 0), (by first | rfl | (simp; done) | (simp [*]; done)), H', ⟨by first | omega | exact Nat.le_refl _⟩, ⟨by (with_reducible repeat (first | apply Kd.V_alloc | apply Kd.V_drewN | apply Kd.V_drew)); exact Kd.V_mono HO0_0.out (fun _ hk => ⟨hk.1.1, ⟨hk.1.2, hk.2⟩⟩)⟩, ⟨by (with_reducible repeat (first | apply Kd.V_alloc | apply Kd.V_drewN | apply Kd.V_drew)); exact Kd.V_mono HO0_2.out (fun _ hk => ⟨hk.1.1, ⟨hk.1.2, hk.2⟩⟩)⟩, ⟨by (with_reducible repeat (first | refine blk_drewN ?_ _ | refine blk_drew ?_ | refine blk_alloc ?_ _)); exact BK229.out⟩, ⟨by (with_reducible repeat (first | refine blk_drewN ?_ _ | refine blk_drew ?_ | refine blk_alloc ?_ _)); exact BK230.out⟩, ⟨bq2_ HB.out GE229.out GE230.out⟩⟩
    ·rw [if_neg c12] at H
     exact absurd H (by simp)
   ·rw [if_neg c11] at H
    have c11b0 : decide (0 < (l0_2.length : Int)) = false := decide_eq_false c11
    have c11b1 : decide (0 < l0_2.length) = false := decide_eq_false (by omega)
    clear c11
    (first | rw [c11b0] | (simp only [i64_w, i32_w]; rw [c11b0]) | rw [c11b1] | skip)
    have H' := Aside0.mk H
    clear H
    go_wp2
    go_meet
    case rel => exact ⟨_, (a0_1), (by first | rfl | (simp; done) | (simp [*]; done)), H', ⟨by first | omega | exact Nat.le_refl _⟩, ⟨by (with_reducible repeat (first | apply Kd.V_alloc | apply Kd.V_drewN | apply Kd.V_drew)); exact Kd.V_mono HO0_0.out (fun _ hk => ⟨hk.1.1, ⟨hk.1.2, hk.2⟩⟩)⟩, ⟨by (with_reducible repeat (first | apply Kd.V_alloc | apply Kd.V_drewN | apply Kd.V_drew)); exact Kd.V_mono HO0_2.out (fun _ hk => ⟨hk.1.1, ⟨hk.1.2, hk.2⟩⟩)⟩, ⟨by (with_reducible repeat (first | refine blk_drewN ?_ _ | refine blk_drew ?_ | refine blk_alloc ?_ _)); exact BK229.out⟩, ⟨by (with_reducible repeat (first | refine blk_drewN ?_ _ | refine blk_drew ?_ | refine blk_alloc ?_ _)); exact BK230.out⟩, ⟨bq2_ HB.out GE229.out GE230.out⟩⟩
  case rest =>
   clear HC4
   try clear c1
   try clear c2
   try clear p2
   try clear q2
   try clear hx2
   try clear qi2
   try clear c3
   try clear c7
   try clear c9
   try clear c11
   try clear c11b0
   try clear c11b1
   try clear c12
   try clear c12b0
   try clear c12b1
   try clear c13
   try clear hcz10_0
   try clear hcz10_1
   try clear hcz10_2
   try clear hcz14_0
   try clear hcz14_1
   try clear hcz14_2
   try clear hcz8_0
   try clear hcz8_1
   try clear hcz8_2
   try clear hfz10_0
   try clear hfz10_1
   try clear hfz10_2
   try clear hfz14_0
   try clear hfz14_1
   try clear hfz14_2
   try clear hfz8_0
   try clear hfz8_1
   try clear hfz8_2
   try clear hx232_0
   try clear p232
   try clear q232
   obtain ⟨kq, x3_3, rfl, HA, HJ3, HO_230000, HO_230002, BK229, BK230, HB⟩ := hcut
   cases kq with
   | zero => exact absurd HA.out (by simp [store_Sweep.j0])
   | succ kj3 =>
    have H := HA.out
    clear HA
    simp only [store_Sweep.j0] at H
    by_cases c15 : 0 ≤ (l0_0.length : Int)
    ·rw [if_pos c15] at H
     have c15b0 := eq_true c15
     have c15b1 : decide (0 ≤ (l0_0.length : Int)) = true := decide_eq_true c15
     clear c15
     by_cases c16 : ((l0_0.length : Int) : Int).toNat ≤ 11728124029610
     ·rw [if_pos c16] at H
      have c16b0 := eq_true c16
      have c16b1 : decide (((l0_0.length : Int) : Int).toNat ≤ 11728124029610) = true := decide_eq_true c16
      clear c16
      obtain ⟨y233, hy233⟩ : ∃ y_ : List (List (S74)), y_ = (List.replicate ((l0_0.length : Int) : Int).toNat []) := ⟨_, rfl⟩
      replace H : (store_Sweep.l0 kj3 x3_3 y233 l0_0 (l0_0.length : Int) 0 l0_0 a0_1 l0_2) = some (r1, r2, r3) := by first | (rw [hy233]; with_reducible exact H) | (have H2_ := (Option.bind_some _ _).symm.trans H; rw [hy233]; with_reducible exact H2_) | (have H2_ := (Option.bind_some _ _).symm.trans H; with_reducible exact H2_) | with_reducible exact H | (rw [hy233]; exact H) | exact H
      have Ny233 := Aside0.mk hy233
      clear hy233
      have H' := Aside0.mk H
      clear H
      have hnb17 := NB229_230.out
      have hnc17 := NB230_229.out
      have hcz18_0 := hc_ BK229 0
      have hcz18_1 := hc_ BK229 1
      have hcz18_2 := hc_ BK229 2
      have hfz18_0 := blk_frozen BK229.out 0
      have hfz18_1 := blk_frozen BK229.out 1
      have hfz18_2 := blk_frozen BK229.out 2
      go_wp2_with (first | ((with_reducible refine gate_dst (N := 24) rfl ?_); refine Kd.N_make (Kd.slice 74 k74) _ 54 rfl (N' := 24) rfl 22 _ _ rfl (l0_0.length : Int) rfl rfl Try.underlying22 (.slice none 0 0) 24 info54 rfl (by decide) (by omega) [] (ok := fun k_ => wc.heap.size ≤ k_) (okp := fun _ => False) (Kd.FK_slice_mk (Nat.le_refl _) (Kd.F_nil _ _ _)) (fun _ hk => hk.elim) (Nat.le_refl _) od_ (Nat.le_trans (Nat.mul_le_mul_right _ (od_ : (l0_0.length : Int).toNat ≤ 11728124029610)) (by omega)) (Below.refl _ _) (Nat.le_refl _) ?_; intro v234 w19 ho20 hb hg_ hnew_; clear hg_ hnew_; (first | rw [← Ny233.out] at ho20 | (simp only [Int.reduceToNat] at ho20; rw [← Ny233.out] at ho20)); have HO235 := Aside0.mk (Kd.N_lower (Kd.N_mono (ok' := fun k_ => ((P0_0_ k_ ∨ P0_2_ k_) ∨ w.heap.size ≤ k_) ∧ k_ ≠ gb229 ∧ k_ ≠ gb230) ho20 (fun k_ hk_ => ⟨(.inr (Nat.le_trans (below_size (bq2_ HB.out GE229.out GE230.out)) hk_)), (Kd.freshB (g := gb229) (o := .cells #[.slice A0_0 l0_0.length c0_0, .int .i64 a0_1, .slice A0_2 l0_2.length c0_2] 25 (0, 0)) (mvK_ BK229.out) k_ hk_), (Kd.freshB (g := gb230) (o := .cells #[.slice none 0 0, .int .i64 0, .slice none 0 0] 25 (0, 0)) (mvK_ BK230.out) k_ hk_)⟩)) (below_size (bq2_ HB.out GE229.out GE230.out))); replace HO_230000 := Aside0.mk (Kd.V_elder' (mvV_ HO_230000.out) (Kd.N_base ho20) hb); replace HO_230002 := Aside0.mk (Kd.V_elder' (mvV_ HO_230002.out) (Kd.N_base ho20) hb); replace BK229 := Aside0.mk (blk_below (g := gb229) (o := .cells #[.slice A0_0 l0_0.length c0_0, .int .i64 a0_1, .slice A0_2 l0_2.length c0_2] 25 (0, 0)) (mvK_ BK229.out) hb); replace BK230 := Aside0.mk (blk_below (g := gb230) (o := .cells #[.slice none 0 0, .int .i64 0, .slice none 0 0] 25 (0, 0)) (mvK_ BK230.out) hb); replace HB := Aside0.mk (below_step (bq2_ HB.out GE229.out GE230.out) hb); clear hb ho20; have hcz21_0 := hc_ BK229 0; have hcz21_1 := hc_ BK229 1; have hcz21_2 := hc_ BK229 2; have hfz21_0 := blk_frozen BK229.out 0; have hfz21_1 := blk_frozen BK229.out 1; have hfz21_2 := blk_frozen BK229.out 2))
      go_loopg [28] kj3 (fun kq v28 w' => ∃ (x4_2 : List (List (S74))) (x28_2 : Int), v28 = .int .i64 x28_2 ∧ Aside0 (store_Sweep.l0 kq x3_3 x4_2 l0_0 (l0_0.length : Int) x28_2 l0_0 a0_1 l0_2 = some (r1, r2, r3)) ∧ Aside0 (kq ≤ kj3) ∧ Aside0 (Kd.N (Kd.slice 74 k74) 54 w' w.heap.size (fun k_ => ((P0_0_ k_ ∨ P0_2_ k_) ∨ w.heap.size ≤ k_) ∧ k_ ≠ gb229 ∧ k_ ≠ gb230) v234 x4_2) ∧ Aside0 (Kd.V (Kd.slice 74 k74) 54 w' w.heap.size (fun k_ => ((P0_0_ k_ ∨ P0_2_ k_) ∨ w.heap.size ≤ k_) ∧ some k_ ≠ (v234 : Value).ownBlock ∧ k_ ≠ gb229 ∧ k_ ≠ gb230) (.slice A0_0 l0_0.length c0_0) l0_0) ∧ Aside0 (Kd.V (Kd.slice 74 k74) 54 w' w.heap.size (fun k_ => ((P0_0_ k_ ∨ P0_2_ k_) ∨ w.heap.size ≤ k_) ∧ some k_ ≠ (v234 : Value).ownBlock ∧ k_ ≠ gb229 ∧ k_ ≠ gb230) (.slice A0_0 l0_0.length c0_0) l0_0) ∧ Aside0 (Kd.V (Kd.int .i64) 3 w' w.heap.size (fun k_ => ((P0_0_ k_ ∨ P0_2_ k_) ∨ w.heap.size ≤ k_) ∧ some k_ ≠ (v234 : Value).ownBlock ∧ k_ ≠ gb229 ∧ k_ ≠ gb230) (.slice A0_2 l0_2.length c0_2) l0_2) ∧ Aside0 (w'.heap[gb229]? = some (.cells #[(.slice A0_0 l0_0.length c0_0), .int .i64 a0_1, (.slice A0_2 l0_2.length c0_2)] 25 (0, 0))) ∧ Aside0 (w'.heap[gb230]? = some (.cells #[(.slice none 0 0), .int .i64 0, (.slice none 0 0)] 25 (0, 0))) ∧ Aside0 (Below w.heap.size w w'))
      case atStart => exact ⟨(y233), (0), (by first | rfl | (simp; done) | (simp [*]; done)), H', ⟨Nat.le_refl _⟩, ⟨mvN_ HO235.out⟩, ⟨by (with_reducible repeat (first | apply Kd.V_alloc | apply Kd.V_drewN | apply Kd.V_drew)); exact Kd.V_mono HO_230000.out (fun _ hk => ⟨hk.1.1, ⟨hk.2, ⟨hk.1.2.1, hk.1.2.2⟩⟩⟩)⟩, ⟨by (with_reducible repeat (first | apply Kd.V_alloc | apply Kd.V_drewN | apply Kd.V_drew)); exact Kd.V_mono HO_230000.out (fun _ hk => ⟨hk.1.1, ⟨hk.2, ⟨hk.1.2.1, hk.1.2.2⟩⟩⟩)⟩, ⟨by (with_reducible repeat (first | apply Kd.V_alloc | apply Kd.V_drewN | apply Kd.V_drew)); exact Kd.V_mono HO_230002.out (fun _ hk => ⟨hk.1.1, ⟨hk.2, ⟨hk.1.2.1, hk.1.2.2⟩⟩⟩)⟩, ⟨by (with_reducible repeat (first | refine blk_drewN ?_ _ | refine blk_drew ?_ | refine blk_alloc ?_ _)); exact BK229.out⟩, ⟨by (with_reducible repeat (first | refine blk_drewN ?_ _ | refine blk_drew ?_ | refine blk_alloc ?_ _)); exact BK230.out⟩, ⟨bq2_ HB.out GE229.out GE230.out⟩⟩
      case round =>
       clear H'
       try clear c1
       try clear c2
       try clear p2
       try clear q2
       try clear hx2
       try clear qi2
       try clear c3
       try clear c7
       try clear c9
       try clear c11
       try clear c11b0
       try clear c11b1
       try clear c12
       try clear c12b0
       try clear c12b1
       try clear c13
       try clear c15
       try clear c15b0
       try clear c15b1
       try clear c16
       try clear c16b0
       try clear c16b1
       try clear c17
       try clear c20
       try clear hcz10_0
       try clear hcz10_1
       try clear hcz10_2
       try clear hcz14_0
       try clear hcz14_1
       try clear hcz14_2
       try clear hcz18_0
       try clear hcz18_1
       try clear hcz18_2
       try clear hcz21_0
       try clear hcz21_1
       try clear hcz21_2
       try clear hcz8_0
       try clear hcz8_1
       try clear hcz8_2
       try clear hfz10_0
       try clear hfz10_1
       try clear hfz10_2
       try clear hfz14_0
       try clear hfz14_1
       try clear hfz14_2
       try clear hfz18_0
       try clear hfz18_1
       try clear hfz18_2
       try clear hfz21_0
       try clear hfz21_1
       try clear hfz21_2
       try clear hfz8_0
       try clear hfz8_1
       try clear hfz8_2
       try clear hx232_0
       try clear p2
       try clear p232
       try clear q2
       try clear q232
       obtain ⟨x4_2, x28_2, rfl, HA, HK2, HO_4, HO_26, HO_230000, HO_230002, BK229, BK230, HB⟩ := hrel
       cases gk with
       | zero => exact absurd HA.out (by simp [store_Sweep.l0])
       | succ k2 =>
        have H := HA.out
        clear HA
        simp only [store_Sweep.l0] at H
        by_cases c22 : x28_2 < (l0_0.length : Int)
        ·rw [if_pos c22] at H
         have c22b0 : decide (x28_2 < (l0_0.length : Int)) = true := decide_eq_true c22
         clear c22
         by_cases c23 : 0 ≤ x28_2
         ·rw [if_pos c23] at H
          have c23b0 : decide (0 ≤ x28_2) = true := decide_eq_true c23
          clear c23
          by_cases c24 : x28_2 < (l0_0.length : Int)
          ·rw [if_pos c24] at H
           have c24b0 : decide (x28_2 < (l0_0.length : Int)) = true := decide_eq_true c24
           clear c24
           replace H := Option.bind_eq_some_iff.mp H
           obtain ⟨t237, A250, H⟩ := H
           replace H : (if x28_2 < (x4_2.length : Int) then (store_Sweep.l0 k2 x3_3 (x4_2.set (x28_2 : Int).toNat t237) l0_0 (l0_0.length : Int) (wrap64 (x28_2 + 1)) l0_0 a0_1 l0_2) else (none)) = some (r1, r2, r3) := H
           have A25 := Aside0.mk A250
           clear A250
           by_cases c26 : x28_2 < (x4_2.length : Int)
           ·rw [if_pos c26] at H
            have c26b0 : decide (x28_2 < (x4_2.length : Int)) = true := decide_eq_true c26
            clear c26
            obtain ⟨y240, hy240⟩ : ∃ y_ : List (List (S74)), y_ = (x4_2.set (x28_2 : Int).toNat t237) := ⟨_, rfl⟩
            replace H : (store_Sweep.l0 k2 x3_3 y240 l0_0 (l0_0.length : Int) (wrap64 (x28_2 + 1)) l0_0 a0_1 l0_2) = some (r1, r2, r3) := by first | (rw [hy240]; with_reducible exact H) | (have H2_ := (Option.bind_some _ _).symm.trans H; rw [hy240]; with_reducible exact H2_) | (have H2_ := (Option.bind_some _ _).symm.trans H; with_reducible exact H2_) | with_reducible exact H | (rw [hy240]; exact H) | exact H
            have Ny240 := Aside0.mk hy240
            clear hy240
            have H' := Aside0.mk H
            clear H
            have p236 : 0 ≤ (x28_2 : Int) := od_
            have q236 : x28_2 < (l0_0.length : Int) := od_
            obtain ⟨ad236, A236_0, c236_0, e236, hx236_0, hl236_0, hi236_0⟩ := at_L4 (Kd.V_reads' HO_26.out).2.2 x28_2 p236 q236
            cases e236
            obtain ⟨ce236, hce236, hMe236, hcc236⟩ := Kd.V_get HO_26.out [] x28_2 p236 (by first | exact q236 | exact od_ | (have e_ := (Kd.V_reads' HO_26.out).1; omega))
            obtain ⟨ua236_0, uc236_0, rfl, ul236_0, ge236_0⟩ := Kd.FK_slice_open hMe236
            have hv236_0 := hcc236 0 _ rfl
            rw [Nat.add_zero, show ((Kd.slice 74 k74)).sz = 1 from rfl, Nat.mul_one] at hv236_0
            replace hv236_0 := Option.some.inj (hv236_0.symm.trans hx236_0)
            injection hv236_0 with hva_ hvn_ hvc_
            rw [hva_] at ge236_0
            rw [hvc_] at ul236_0
            have HL236_0 := Aside0.mk (show Kd.V k74 74 _ w.heap.size _ _ (rd_L4 l0_0 x28_2) from Kd.V_mk ul236_0 ge236_0)
            clear hva_ hvn_ hvc_ ge236_0 ul236_0 hcc236 hce236
            have HR236_0 := Aside0.mk hi236_0
            have HC236_0 := Aside0.mk hl236_0
            clear hi236_0 hl236_0
            replace p236 := eq_true p236
            replace q236 := eq_true q236
            go_wp2_with (first | ((with_reducible refine gate_callee (f := 41) rfl ?_); refine gL_ (some 37) Try.func41 #[.slice A236_0 (rd_L4 l0_0 x28_2).length c236_0, .int .i64 x3_3] ?_; (with_reducible refine (chain_Trim.calls k2 (fun k_ => (((P0_0_ k_ ∨ P0_2_ k_) ∨ w.heap.size ≤ k_) ∧ (some k_ ≠ (v234 : Value).ownBlock ∧ (k_ ≠ gb229 ∧ k_ ≠ gb230)))) _ _ (rd_L4 l0_0 x28_2) x3_3 t237 _ ?side1 A25.out).mono ?_); (case side1 => exact HL236_0.out); rintro e w28 ⟨v238, rfl, ho0, hb⟩; refine ⟨_, rfl, ?_⟩; have HO239 := Aside0.mk (Kd.V_lower (Kd.V_mono (ok' := fun k_ => ((P0_0_ k_ ∨ P0_2_ k_) ∨ w.heap.size ≤ k_) ∧ some k_ ≠ (v234 : Value).ownBlock ∧ k_ ≠ gb229 ∧ k_ ≠ gb230) ho0 (fun k_ hk_ => ⟨Or.elim hk_ (fun hs_ => hs_.1) (fun hn_ => (.inr (Nat.le_trans (below_size (bq2_ HB.out GE229.out GE230.out)) hn_))), Or.elim hk_ (fun hs_ => hs_.2.1) (fun hn_ => (Kd.fresh' (Kd.N_lt (mvN_ HO_4.out)) k_ hn_)), Or.elim hk_ (fun hs_ => hs_.2.2.1) (fun hn_ => (Kd.freshB (g := gb229) (o := .cells #[.slice (some ad236) l0_0.length c0_0, .int .i64 a0_1, .slice A0_2 l0_2.length c0_2] 25 (0, 0)) (mvK_ BK229.out) k_ hn_)), Or.elim hk_ (fun hs_ => hs_.2.2.2) (fun hn_ => (Kd.freshB (g := gb230) (o := .cells #[.slice none 0 0, .int .i64 0, .slice none 0 0] 25 (0, 0)) (mvK_ BK230.out) k_ hn_))⟩)) (below_size (bq2_ HB.out GE229.out GE230.out))); replace HO_4 := Aside0.mk (Kd.N_below (mvN_ HO_4.out) hb); replace HO_26 := Aside0.mk (Kd.V_below (mvV_ HO_26.out) hb); replace HO_230000 := Aside0.mk (Kd.V_below (mvV_ HO_230000.out) hb); replace HO_230002 := Aside0.mk (Kd.V_below (mvV_ HO_230002.out) hb); replace HL236_0 := Aside0.mk (Kd.V_below (mvV_ HL236_0.out) hb); replace BK229 := Aside0.mk (blk_below (g := gb229) (o := .cells #[.slice (some ad236) l0_0.length c0_0, .int .i64 a0_1, .slice A0_2 l0_2.length c0_2] 25 (0, 0)) (mvK_ BK229.out) hb); replace BK230 := Aside0.mk (blk_below (g := gb230) (o := .cells #[.slice none 0 0, .int .i64 0, .slice none 0 0] 25 (0, 0)) (mvK_ BK230.out) hb); replace HR236_0 := Aside0.mk (Kd.C_below (by repeat (first | (with_reducible exact HR236_0.out) | (with_reducible refine Kd.C_alloc ?_ _) | (with_reducible refine Kd.C_drewN ?_ _) | (with_reducible refine Kd.C_drew ?_) | exact HR236_0.out)) hb); replace HB := Aside0.mk (below_step (bq2_ HB.out GE229.out GE230.out) hb); (try clear hb); (try clear ho0); have p27 : 0 ≤ (x28_2 : Int) := od_; have q27 : (x28_2 : Int) < ((x4_2.length : Int) : Int) := od_; obtain ⟨go27, co27, eo27, gb27, gl27, cl27, HG27⟩ := Kd.N_form HO_4.out (by omega); (first | cases eo27 | (injection eo27 with ea_ en_ ec_; (first | subst ea_ | (injection ea_ with ea_; subst ea_)); subst ec_; clear en_)); have GB27 := Aside0.mk gb27; have GG27 := Aside0.mk HG27; clear gb27 gl27 HG27; obtain ⟨ce27, hcl27, hM27, hcc27, hfr27⟩ := Kd.N_elem HO_4.out [] (x28_2 : Int) p27 q27; obtain ⟨ua27_0, uc27_0, rfl, ul27_0, ge27_0⟩ := Kd.FK_slice_open hM27; have hx27_0 := hcc27 0 _ rfl; have hf27_0 := hfr27 0; (try simp only [show ((Kd.slice 74 k74)).sz = 1 from rfl, Nat.mul_one, Nat.add_zero] at hx27_0); (try simp only [show ((Kd.slice 74 k74)).sz = 1 from rfl, Nat.mul_one, Nat.add_zero] at hf27_0); clear hcl27 hcc27 hfr27 hM27; replace p27 := eq_true p27; replace q27 := eq_true q27; have HX29 := Aside0.mk (show Kd.N (Kd.slice 74 k74) 54 w28 w.heap.size (fun k_ => ((P0_0_ k_ ∨ P0_2_ k_) ∨ w.heap.size ≤ k_) ∧ k_ ≠ gb229 ∧ k_ ≠ gb230) (.slice (some ⟨go27, 0, none⟩) x4_2.length co27) x4_2 from (mvN_ HO_4.out)); obtain ⟨ce29, hcl29, hM29, hcc29, hfr29⟩ := Kd.N_elem HX29.out [] (x28_2 : Int) od_ (by have h_ : (x28_2 : Int) < ((x4_2.length : Int) : Int) := od_; first | exact h_ | (have e_ := (Kd.N_reads' HO_4.out).1; omega) | simpa using h_); obtain ⟨ua29_0, uc29_0, rfl, ul29_0, ge29_0⟩ := Kd.FK_slice_open hM29; obtain ⟨AoS238, coS238, eoS238⟩ := Kd.V_slice HO239.out; subst eoS238; have HP29 := Kd.N_seg HX29.out (x28_2 : Int) od_ (by have h_ : (x28_2 : Int) < ((x4_2.length : Int) : Int) := od_; first | exact h_ | (have e_ := (Kd.N_reads' HO_4.out).1; omega) | simpa using h_) (seg := [.slice AoS238 t237.length coS238]) (j := 0) hcl29 hcc29 (show 1 ≤ 1 from by decide) (x' := t237) (fkV_ (Kd.V_mono (ok' := (fun k_ => ((fun k_ => ((P0_0_ k_ ∨ P0_2_ k_) ∨ w.heap.size ≤ k_) ∧ k_ ≠ gb229 ∧ k_ ≠ gb230)) k_ ∧ k_ ≠ go27)) (HO239.out) (fun k_ hk => ⟨⟨hk.1, ⟨hk.2.2.1, hk.2.2.2⟩⟩, fun e_ => (hk.2.1) (by rw [e_]; rfl)⟩))) (fun _ hk => hk); have hx29_0 := hcc29 0 _ rfl; (try simp only [show ((Kd.slice 74 k74)).sz = 1 from rfl, Nat.mul_one, Nat.add_zero] at hx29_0); have hf29_0 := hfr29 0; (try simp only [show ((Kd.slice 74 k74)).sz = 1 from rfl, Nat.mul_one, Nat.add_zero] at hf29_0); clear hcl29 hcc29 hfr29 hM29; (try simp only [show ((Kd.slice 74 k74)).sz = 1 from rfl, Nat.mul_one, Nat.add_zero] at HP29); (try simp only [show ((Kd.slice 74 k74)).sz = 1 from rfl, Nat.mul_one, Nat.add_zero] at HP29)) | ((with_reducible refine gate_store (t := 54) (p := 38) rfl ?_); refine store_event (t := 54) (p := 38) (v := ?vo_w30) (w1 := (w28.setCell ⟨go27, (x28_2 : Int).toNat, none⟩ (.slice AoS238 t237.length coS238))) ?hg ?ho ?hn ?hr ?_; (case ho => rfl); (case hg => rfl); (case hn => rfl); (case hr => first | (go_simp; done) | (go_simp; rfl)); intro w30 hw; have hg : w28.grownBy w30 (some go27) := (by rw [hw]; exact HP29.2); have hp_ : Kd.N (Kd.slice 74 k74) 54 w30 w.heap.size (fun k_ => ((P0_0_ k_ ∨ P0_2_ k_) ∨ w.heap.size ≤ k_) ∧ k_ ≠ gb229 ∧ k_ ≠ gb230) (.slice (some ⟨go27, 0, none⟩) x4_2.length co27) y240 := (by rw [hw, Ny240.out]; exact HP29.1); clear HP29; replace HO_26 := Aside0.mk (Kd.V_afterv (v := (.slice (some ⟨go27, 0, none⟩) x4_2.length co27)) (v1 := (.slice (some ⟨go27, 0, none⟩) x4_2.length co27)) (ok := (fun k_ => ((P0_0_ k_ ∨ P0_2_ k_) ∨ w.heap.size ≤ k_) ∧ k_ ≠ gb229 ∧ k_ ≠ gb230)) (by (with_reducible repeat (first | apply Kd.V_alloc | apply Kd.V_drewN | apply Kd.V_drew)); exact Kd.V_mono HO_26.out (fun _ hk => ⟨⟨hk.1, ⟨hk.2.2.1, hk.2.2.2⟩⟩, hk.2.1⟩)) hg (.inl rfl)); replace HO_230000 := Aside0.mk (Kd.V_afterv (v := (.slice (some ⟨go27, 0, none⟩) x4_2.length co27)) (v1 := (.slice (some ⟨go27, 0, none⟩) x4_2.length co27)) (ok := (fun k_ => ((P0_0_ k_ ∨ P0_2_ k_) ∨ w.heap.size ≤ k_) ∧ k_ ≠ gb229 ∧ k_ ≠ gb230)) (by (with_reducible repeat (first | apply Kd.V_alloc | apply Kd.V_drewN | apply Kd.V_drew)); exact Kd.V_mono HO_230000.out (fun _ hk => ⟨⟨hk.1, ⟨hk.2.2.1, hk.2.2.2⟩⟩, hk.2.1⟩)) hg (.inl rfl)); replace HO_230002 := Aside0.mk (Kd.V_afterv (v := (.slice (some ⟨go27, 0, none⟩) x4_2.length co27)) (v1 := (.slice (some ⟨go27, 0, none⟩) x4_2.length co27)) (ok := (fun k_ => ((P0_0_ k_ ∨ P0_2_ k_) ∨ w.heap.size ≤ k_) ∧ k_ ≠ gb229 ∧ k_ ≠ gb230)) (by (with_reducible repeat (first | apply Kd.V_alloc | apply Kd.V_drewN | apply Kd.V_drew)); exact Kd.V_mono HO_230002.out (fun _ hk => ⟨⟨hk.1, ⟨hk.2.2.1, hk.2.2.2⟩⟩, hk.2.1⟩)) hg (.inl rfl)); replace BK229 := Aside0.mk (blk_grown (g := gb229) (o := .cells #[.slice (some ad236) l0_0.length c0_0, .int .i64 a0_1, .slice A0_2 l0_2.length c0_2] 25 (0, 0)) (mvK_ BK229.out) hg (Kd.N_ne HO_4.out BK229.out (by decide))); replace BK230 := Aside0.mk (blk_grown (g := gb230) (o := .cells #[.slice none 0 0, .int .i64 0, .slice none 0 0] 25 (0, 0)) (mvK_ BK230.out) hg (Kd.N_ne HO_4.out BK230.out (by decide))); replace HO_4 := Aside0.mk (hp_); replace HL236_0 := Aside0.mk (Kd.V_afterv (v := (.slice (some ⟨go27, 0, none⟩) x4_2.length co27)) (v1 := (.slice (some ⟨go27, 0, none⟩) x4_2.length co27)) (ok := (fun k_ => ((P0_0_ k_ ∨ P0_2_ k_) ∨ w.heap.size ≤ k_) ∧ k_ ≠ gb229 ∧ k_ ≠ gb230)) (by (with_reducible repeat (first | apply Kd.V_alloc | apply Kd.V_drewN | apply Kd.V_drew)); exact Kd.V_mono HL236_0.out (fun _ hk => ⟨⟨hk.1, ⟨hk.2.2.1, hk.2.2.2⟩⟩, hk.2.1⟩)) hg (.inl rfl)); replace HO239 := Aside0.mk (Kd.V_afterv (v := (.slice (some ⟨go27, 0, none⟩) x4_2.length co27)) (v1 := (.slice (some ⟨go27, 0, none⟩) x4_2.length co27)) (ok := (fun k_ => ((P0_0_ k_ ∨ P0_2_ k_) ∨ w.heap.size ≤ k_) ∧ k_ ≠ gb229 ∧ k_ ≠ gb230)) (by (with_reducible repeat (first | apply Kd.V_alloc | apply Kd.V_drewN | apply Kd.V_drew)); exact Kd.V_mono HO239.out (fun _ hk => ⟨⟨hk.1, ⟨hk.2.2.1, hk.2.2.2⟩⟩, hk.2.1⟩)) hg (.inl rfl)); replace HB := Aside0.mk ((by rw [hw]; exact below_set (HB.out) GB27.out : Below w.heap.size w w30)); clear hg hw hp_))
            go_roundg k2
            case measure => have := HJ3.out; have := HK2.out; omega
            case rel => exact ⟨(y240), (wrap64 (x28_2 + 1)), (by first | rfl | (simp; done) | (simp [*]; done)), H', ⟨by have := HJ3.out; have := HK2.out; omega⟩, ⟨mvN_ HO_4.out⟩, ⟨by (with_reducible repeat (first | apply Kd.V_alloc | apply Kd.V_drewN | apply Kd.V_drew)); exact Kd.V_mono HO_26.out (fun _ hk => ⟨hk.1.1, ⟨hk.2, ⟨hk.1.2.1, hk.1.2.2⟩⟩⟩)⟩, ⟨by (with_reducible repeat (first | apply Kd.V_alloc | apply Kd.V_drewN | apply Kd.V_drew)); exact Kd.V_mono HO_230000.out (fun _ hk => ⟨hk.1.1, ⟨hk.2, ⟨hk.1.2.1, hk.1.2.2⟩⟩⟩)⟩, ⟨by (with_reducible repeat (first | apply Kd.V_alloc | apply Kd.V_drewN | apply Kd.V_drew)); exact Kd.V_mono HO_230002.out (fun _ hk => ⟨hk.1.1, ⟨hk.2, ⟨hk.1.2.1, hk.1.2.2⟩⟩⟩)⟩, ⟨by (with_reducible repeat (first | refine blk_drewN ?_ _ | refine blk_drew ?_ | refine blk_alloc ?_ _)); exact BK229.out⟩, ⟨by (with_reducible repeat (first | refine blk_drewN ?_ _ | refine blk_drew ?_ | refine blk_alloc ?_ _)); exact BK230.out⟩, ⟨bq2_ HB.out GE229.out GE230.out⟩⟩
           ·rw [if_neg c26] at H
            exact absurd H (by simp)
          ·rw [if_neg c24] at H
           exact absurd H (by simp)
         ·rw [if_neg c23] at H
          exact absurd H (by simp)
        ·rw [if_neg c22] at H
         have c22b0 : decide (x28_2 < (l0_0.length : Int)) = false := decide_eq_false c22
         clear c22
         simp only [Option.some.injEq, Prod.mk.injEq] at H
         obtain ⟨rfl, rfl, rfl⟩ := H
         obtain ⟨Ao31, co31, eo31⟩ := Kd.N_slice HO_4.out
         subst eo31
         have hnb32 := NB229_230.out
         have hnc32 := NB230_229.out
         have hcz33_0 := hc_ BK229 0
         have hcz33_1 := hc_ BK229 1
         have hcz33_2 := hc_ BK229 2
         have hfz33_0 := blk_frozen BK229.out 0
         have hfz33_1 := blk_frozen BK229.out 1
         have hfz33_2 := blk_frozen BK229.out 2
         have hcz34_0 := hc_ BK230 0
         have hcz34_1 := hc_ BK230 1
         have hcz34_2 := hc_ BK230 2
         have hfz34_0 := blk_frozen BK230.out 0
         have hfz34_1 := blk_frozen BK230.out 1
         have hfz34_2 := blk_frozen BK230.out 2
         go_wp2
         refine bodyPost_ret (results_cell_row rfl _ _ gb230 25 #[.slice Ao31 x4_2.length co31, .int .i64 a0_1, .slice A0_2 l0_2.length c0_2] (0, 0) _ rfl (by (with_reducible repeat (first | refine blk_drewN ?_ _ | refine blk_drew ?_ | refine blk_alloc ?_ _)); refine blk_put (cs := #[.slice Ao31 x4_2.length co31, .int .i64 a0_1, .slice none 0 0]) ?_ 2 _ rfl; (with_reducible repeat (first | refine blk_drewN ?_ _ | refine blk_drew ?_ | refine blk_alloc ?_ _)); refine blk_put (cs := #[.slice Ao31 x4_2.length co31, .int .i64 0, .slice none 0 0]) ?_ 1 _ rfl; (with_reducible repeat (first | refine blk_drewN ?_ _ | refine blk_drew ?_ | refine blk_alloc ?_ _)); refine blk_put (cs := #[.slice none 0 0, .int .i64 0, .slice none 0 0]) ?_ 0 _ rfl; (with_reducible repeat (first | refine blk_drewN ?_ _ | refine blk_drew ?_ | refine blk_alloc ?_ _)); refine blk_far ?_ NB230_229.out _; (with_reducible repeat (first | refine blk_drewN ?_ _ | refine blk_drew ?_ | refine blk_alloc ?_ _)); exact BK230.out) Try.underlying25 rfl (by kernel_rfl)) rfl ?_
         exact ⟨_, _, by first | rfl | (simp <;> rfl) | (simp [*] <;> rfl), Kd.N_V (by (with_reducible repeat (first | apply Kd.N_alloc | apply Kd.N_drewN | apply Kd.N_drew)); exact Kd.N_mono (Kd.N_far (p := ⟨gb230, 2, none⟩) (Kd.N_far (p := ⟨gb230, 1, none⟩) (Kd.N_far (p := ⟨gb230, 0, none⟩) (Kd.N_far (p := ⟨gb229, 0, none⟩) (Kd.N_mono (Kd.N_mono HO_4.out (fun k_ hk => (⟨hk, hk.2.1⟩ : _ ∧ k_ ≠ gb229))) (fun k_ hk => (⟨hk, hk.1.2.2⟩ : _ ∧ k_ ≠ gb230))) (fun _ hk => hk.1.2) (.slice Ao31 x4_2.length co31)) (fun _ hk => hk.2) (.slice Ao31 x4_2.length co31)) (fun _ hk => hk.2) (.int .i64 a0_1)) (fun _ hk => hk.2) (.slice A0_2 l0_2.length c0_2)) (fun _ hk => hk.1.1.1)), by (with_reducible repeat (first | apply Kd.V_alloc | apply Kd.V_drewN | apply Kd.V_drew)); exact Kd.V_mono (Kd.V_far (p := ⟨gb230, 2, none⟩) (Kd.V_far (p := ⟨gb230, 1, none⟩) (Kd.V_far (p := ⟨gb230, 0, none⟩) (Kd.V_far (p := ⟨gb229, 0, none⟩) (Kd.V_mono (Kd.V_mono HO_230002.out (fun k_ hk => (⟨hk, hk.2.2.1⟩ : _ ∧ k_ ≠ gb229))) (fun k_ hk => (⟨hk, hk.1.2.2.2⟩ : _ ∧ k_ ≠ gb230))) (fun _ hk => hk.1.2) (.slice Ao31 x4_2.length co31)) (fun _ hk => hk.2) (.slice Ao31 x4_2.length co31)) (fun _ hk => hk.2) (.int .i64 a0_1)) (fun _ hk => hk.2) (.slice A0_2 l0_2.length c0_2)) (fun _ hk => hk.1.1.1), bq2_ HB.out GE229.out GE230.out⟩
     ·rw [if_neg c16] at H
      exact absurd H (by simp)
    ·rw [if_neg c15] at H
     exact absurd H (by simp)
 ·replace c3 := Bool.eq_false_iff.mpr c3
  subst c3
  have H1 : (some (l0_0, a0_1, l0_2)) = some (r1, r2, r3) := by rw [if_neg (show ¬ (false = true) by decide)] at H; exact H
  clear H
  have H := H1
  clear H1
  simp only [Option.some.injEq, Prod.mk.injEq] at H
  obtain ⟨rfl, rfl, rfl⟩ := H
  go_enter Try.func20, Try.ntmps20
  go_wp2_with (first | ((with_reducible refine gate_dst (N := 1) rfl ?_); refine box_event ?hg (N := 1) ?hd (cs := #[.slice A0_0 l0_0.length c0_0, .int .i64 a0_1, .slice A0_2 l0_2.length c0_2]) (t := 25) ?hr ?_; (case hd => rfl); (case hg => rfl); (case hr => first | (go_simp; done) | (go_simp; rfl)); intro gb229 hg w35 hbox hb; have BK229 := Aside0.mk (hbox); have GW229 := Aside0.mk ((by rw [hg]; exact (below_size (bq0_ HB.out)) : w.heap.size ≤ gb229)); have GE229 := Aside0.mk ((by rw [hg]; exact (below_size (bq0_ HB.out)) : w.heap.size ≤ gb229)); replace HO0_0 := Aside0.mk (Kd.V_below (Kd.V_elderB (mvV_ HO0_0.out) gb229 (Nat.le_of_eq hg.symm)) hb); replace HO0_2 := Aside0.mk (Kd.V_below (Kd.V_elderB (mvV_ HO0_2.out) gb229 (Nat.le_of_eq hg.symm)) hb); replace HB := Aside0.mk (below_step (bq0_ HB.out) hb); clear hb hbox hg) | ((with_reducible refine gate_dst (N := 2) rfl ?_); refine box_event ?hg (N := 2) ?hd (cs := #[.slice none 0 0, .int .i64 0, .slice none 0 0]) (t := 25) ?hr ?_; (case hd => rfl); (case hg => rfl); (case hr => first | (go_simp; done) | (go_simp; rfl)); intro gb230 hg w36 hbox hb; have BK230 := Aside0.mk (hbox); have GW230 := Aside0.mk ((by rw [hg]; exact (below_size (bq1_ HB.out GE229.out)) : w.heap.size ≤ gb230)); have GE230 := Aside0.mk ((by rw [hg]; exact (below_size (bq1_ HB.out GE229.out)) : w.heap.size ≤ gb230)); have NB229_230 := Aside0.mk ((by rw [hg]; exact Nat.ne_of_lt (blk_lt (g := gb229) (o := .cells #[.slice A0_0 l0_0.length c0_0, .int .i64 a0_1, .slice A0_2 l0_2.length c0_2] 25 (0, 0)) (mvK_ BK229.out)) : gb229 ≠ gb230)); have NB230_229 := Aside0.mk ((by rw [hg]; exact Nat.ne_of_gt (blk_lt (g := gb229) (o := .cells #[.slice A0_0 l0_0.length c0_0, .int .i64 a0_1, .slice A0_2 l0_2.length c0_2] 25 (0, 0)) (mvK_ BK229.out)) : gb230 ≠ gb229)); replace HO0_0 := Aside0.mk (Kd.V_below (Kd.V_elderB (mvV_ HO0_0.out) gb230 (Nat.le_of_eq hg.symm)) hb); replace HO0_2 := Aside0.mk (Kd.V_below (Kd.V_elderB (mvV_ HO0_2.out) gb230 (Nat.le_of_eq hg.symm)) hb); replace BK229 := Aside0.mk (blk_below (g := gb229) (o := .cells #[.slice A0_0 l0_0.length c0_0, .int .i64 a0_1, .slice A0_2 l0_2.length c0_2] 25 (0, 0)) (mvK_ BK229.out) hb); replace HB := Aside0.mk (below_step (bq1_ HB.out GE229.out) hb); clear hb hbox hg; have hnb37 := NB229_230.out; have hnc37 := NB230_229.out; have hcz38_0 := hc_ BK229 0; have hcz38_1 := hc_ BK229 1; have hcz38_2 := hc_ BK229 2; have hfz38_0 := blk_frozen BK229.out 0; have hfz38_1 := blk_frozen BK229.out 1; have hfz38_2 := blk_frozen BK229.out 2) | ((with_reducible refine gate_callee (f := 9) rfl ?_); refine gL_ (some 8) Try.func9 #[.agg #[.slice A0_0 l0_0.length c0_0, .int .i64 a0_1, .slice A0_2 l0_2.length c0_2]] ?_; (with_reducible refine (store_Check.calls k _ _ l0_0 a0_1 _ _ l0_2 false _ ?side1 ?side2 ?side3 ?side4 A2.out).mono ?_); (case side1 => exact mvC_ ((Kd.V_reads' HO0_0.out).2.2)); (case side2 => exact (Kd.V_reads' HO0_0.out).2.1); (case side3 => exact mvC_ ((Kd.V_reads' HO0_2.out).2.2)); (case side4 => exact (Kd.V_reads' HO0_2.out).2.1); rintro e w39 ⟨rfl, hb⟩; refine ⟨_, rfl, ?_⟩; replace HO0_0 := Aside0.mk (Kd.V_below (mvV_ HO0_0.out) hb); replace HO0_2 := Aside0.mk (Kd.V_below (mvV_ HO0_2.out) hb); replace BK229 := Aside0.mk (blk_below (g := gb229) (o := .cells #[.slice A0_0 l0_0.length c0_0, .int .i64 a0_1, .slice A0_2 l0_2.length c0_2] 25 (0, 0)) (mvK_ BK229.out) hb); replace BK230 := Aside0.mk (blk_below (g := gb230) (o := .cells #[.slice none 0 0, .int .i64 0, .slice none 0 0] 25 (0, 0)) (mvK_ BK230.out) hb); replace HB := Aside0.mk (below_step (bq2_ HB.out GE229.out GE230.out) hb); (try clear hb); have hcz40_0 := hc_ BK229 0; have hcz40_1 := hc_ BK229 1; have hcz40_2 := hc_ BK229 2; have hfz40_0 := blk_frozen BK229.out 0; have hfz40_1 := blk_frozen BK229.out 1; have hfz40_2 := blk_frozen BK229.out 2; have hcz41_0 := hc_ BK230 0; have hcz41_1 := hc_ BK230 1; have hcz41_2 := hc_ BK230 2; have hfz41_0 := blk_frozen BK230.out 0; have hfz41_1 := blk_frozen BK230.out 1; have hfz41_2 := blk_frozen BK230.out 2))
  refine bodyPost_ret (results_cell_row rfl _ _ gb230 25 #[.slice A0_0 l0_0.length c0_0, .int .i64 a0_1, .slice A0_2 l0_2.length c0_2] (0, 0) _ rfl (by (with_reducible repeat (first | refine blk_drewN ?_ _ | refine blk_drew ?_ | refine blk_alloc ?_ _)); refine blk_put (cs := #[.slice A0_0 l0_0.length c0_0, .int .i64 a0_1, .slice none 0 0]) ?_ 2 _ rfl; (with_reducible repeat (first | refine blk_drewN ?_ _ | refine blk_drew ?_ | refine blk_alloc ?_ _)); refine blk_put (cs := #[.slice A0_0 l0_0.length c0_0, .int .i64 0, .slice none 0 0]) ?_ 1 _ rfl; (with_reducible repeat (first | refine blk_drewN ?_ _ | refine blk_drew ?_ | refine blk_alloc ?_ _)); refine blk_put (cs := #[.slice none 0 0, .int .i64 0, .slice none 0 0]) ?_ 0 _ rfl; (with_reducible repeat (first | refine blk_drewN ?_ _ | refine blk_drew ?_ | refine blk_alloc ?_ _)); exact BK230.out) Try.underlying25 rfl (by kernel_rfl)) rfl ?_
  exact ⟨_, _, by first | rfl | (simp <;> rfl) | (simp [*] <;> rfl), by (with_reducible repeat (first | apply Kd.V_alloc | apply Kd.V_drewN | apply Kd.V_drew)); exact Kd.V_mono (Kd.V_far (p := ⟨gb230, 2, none⟩) (Kd.V_far (p := ⟨gb230, 1, none⟩) (Kd.V_far (p := ⟨gb230, 0, none⟩) (Kd.V_mono HO0_0.out (fun k_ hk => (⟨hk, hk.2⟩ : _ ∧ k_ ≠ gb230))) (fun _ hk => hk.2) (.slice A0_0 l0_0.length c0_0)) (fun _ hk => hk.2) (.int .i64 a0_1)) (fun _ hk => hk.2) (.slice A0_2 l0_2.length c0_2)) (fun _ hk => hk.1.1.1), by (with_reducible repeat (first | apply Kd.V_alloc | apply Kd.V_drewN | apply Kd.V_drew)); exact Kd.V_mono (Kd.V_far (p := ⟨gb230, 2, none⟩) (Kd.V_far (p := ⟨gb230, 1, none⟩) (Kd.V_far (p := ⟨gb230, 0, none⟩) (Kd.V_mono HO0_2.out (fun k_ hk => (⟨hk, hk.2⟩ : _ ∧ k_ ≠ gb230))) (fun _ hk => hk.2) (.slice A0_0 l0_0.length c0_0)) (fun _ hk => hk.2) (.int .i64 a0_1)) (fun _ hk => hk.2) (.slice A0_2 l0_2.length c0_2)) (fun _ hk => hk.1.1.1), bq2_ HB.out GE229.out GE230.out⟩
def fullerref02_Same.l0 : Nat → List Int → List Int → Int → Option (Bool)
  | 0, _, _, _ => none
  | k + 1, x0, x1, x5 => if x5 < (x0.length : Int) then (if 0 ≤ x5 then (if x5 < (x1.length : Int) then (if (rd x0 x5) = (rd x1 x5) then (fullerref02_Same.l0 k x0 x1 (wrap64 (x5 + 1))) else (some false)) else (none)) else (none)) else (some true)
def fullerref02_Same.f (k : Nat) (l0 : List Int) (l1 : List Int) : Option (Bool) := if (l0.length : Int) = (l1.length : Int) then (fullerref02_Same.l0 k l0 l1 0) else (some false)
theorem fullerref02_Same.mono_l : ∀ k, (∀ y0 y1 y2, LeO (fullerref02_Same.l0 k y0 y1 y2) (fullerref02_Same.l0 (k + 1) y0 y1 y2))
  | 0 => fun _ _ _ r h => by simp [fullerref02_Same.l0] at h
  | k + 1 => by
    have ih0 := fullerref02_Same.mono_l k
    · intro y0 y1 y2
      unfold fullerref02_Same.l0
      repeat' first
       | (with_reducible first | exact ih0 _ _ _ | exact LeO.refl _ | exact LeO.none _ | refine LeO.ite ?_ ?_ | refine LeO.bind ?_ (fun _ => ?_))
       | first | exact ih0 _ _ _ | exact LeO.none _ | refine LeO.ite ?_ ?_ | refine LeO.bind ?_ (fun _ => ?_)
theorem fullerref02_Same.mono : ∀ a0 a1 k, LeO (fullerref02_Same.f k a0 a1) (fullerref02_Same.f (k + 1) a0 a1) := by
  intro a0 a1 k
  have ih0 := fullerref02_Same.mono_l k
  unfold fullerref02_Same.f
  repeat' first
   | (with_reducible first | exact ih0 _ _ _ | exact LeO.refl _ | exact LeO.none _ | refine LeO.ite ?_ ?_ | refine LeO.bind ?_ (fun _ => ?_))
   | first | exact ih0 _ _ _ | exact LeO.none _ | refine LeO.ite ?_ ?_ | refine LeO.bind ?_ (fun _ => ?_)
set_option maxHeartbeats 8000000 in
set_option maxRecDepth 100000 in
theorem fullerref02_Same.calls (k : Nat) (A0 : Option Addr) (c0 : Nat) (l0 : List Int) (A1 : Option Addr) (c1 : Nat) (l1 : List Int) (r : Bool) (w : World) (hr0 : Kd.C (Kd.int .i64) w A0 l0.length l0) (hc0 : l0.length ≤ c0) (hr1 : Kd.C (Kd.int .i64) w A1 l1.length l1) (hc1 : l1.length ≤ c1) (h : fullerref02_Same.f k l0 l1 = some r) :
    Calls Try.prog 21 #[.slice A0 l0.length c0, .slice A1 l1.length c1] w fun e w' => e = .returned (.bool r) ∧ Drawn0 w w' := by
  have HR0 := Aside0.mk hr0
  have HC0 := Aside0.mk hc0
  clear hr0 hc0
  have HR1 := Aside0.mk hr1
  have HC1 := Aside0.mk hc1
  clear hr1 hc1
  have H : (if (l0.length : Int) = (l1.length : Int) then (fullerref02_Same.l0 k l0 l1 0) else (some false)) = some r := h
  clear h
  by_cases c3 : (l0.length : Int) = (l1.length : Int)
  · rw [if_pos c3] at H
    have c3b0 : ((l0.length : Int) == (l1.length : Int)) = true := beq_iff_eq.mpr c3
    have c3b1 : ((l0.length : Int) != (l1.length : Int)) = false := bne_eq_false_iff_eq.mpr c3
    have c3b2 : (l0.length == l1.length) = true := by first | simpa using c3 | (simp at c3 ⊢; omega)
    clear c3
    have H' := Aside0.mk H
    clear H
    go_enter Try.func21, Try.ntmps21
    go_wp2
    repeat (go_quiet (fail); try go_wp2)
    go_loopg [5] k (fun kq v5 w' => ∃ (x5_1 : Int), v5 = .int .i64 x5_1 ∧ Aside0 (fullerref02_Same.l0 kq l0 l1 x5_1 = some r) ∧ Aside0 (kq ≤ k) ∧ Drawn0 w w')
    case atStart => exact ⟨(0), (by first | rfl | (simp; done) | (simp [*]; done)), H', ⟨Nat.le_refl _⟩, by repeat (first | exact Drawn0.refl _ | apply Drawn0.step)⟩
    case round =>
      clear H'
      try clear c1
      try clear c2
      try clear p2
      try clear c3
      try clear c3b0
      try clear c3b1
      try clear c3b2
      obtain ⟨x5_1, rfl, HA, HK1, ⟨m1, rfl⟩⟩ := hrel
      cases gk with
      | zero => exact absurd HA.out (by simp [fullerref02_Same.l0])
      | succ k1 =>
        have H := HA.out
        clear HA
        simp only [fullerref02_Same.l0] at H
        by_cases c4 : x5_1 < (l0.length : Int)
        · rw [if_pos c4] at H
          have c4b0 : decide (x5_1 < (l0.length : Int)) = true := decide_eq_true c4
          clear c4
          by_cases c5 : 0 ≤ x5_1
          · rw [if_pos c5] at H
            have c5b0 : decide (0 ≤ x5_1) = true := decide_eq_true c5
            clear c5
            by_cases c6 : x5_1 < (l1.length : Int)
            · rw [if_pos c6] at H
              have c6b0 : decide (x5_1 < (l1.length : Int)) = true := decide_eq_true c6
              clear c6
              by_cases c7 : (rd l0 x5_1) = (rd l1 x5_1)
              · rw [if_pos c7] at H
                obtain ⟨c7b0, c7b1⟩ := eqT_ c7
                clear c7
                have H' := Aside0.mk H
                clear H
                have p241 : 0 ≤ (x5_1 : Int) := of_decide_eq_true (by first | (with_reducible assumption) | assumption)
                have q241 : x5_1 < (l0.length : Int) := of_decide_eq_true (by first | (with_reducible assumption) | assumption)
                obtain ⟨ad241, e241, hx241_0⟩ := Kd.at_int HR0.out x5_1 p241 q241
                cases e241
                replace p241 := eq_true p241
                replace q241 := eq_true q241
                have p242 : 0 ≤ (x5_1 : Int) := of_decide_eq_true (by first | (with_reducible assumption) | assumption)
                have q242 : x5_1 < (l1.length : Int) := of_decide_eq_true (by first | (with_reducible assumption) | assumption)
                obtain ⟨ad242, e242, hx242_0⟩ := Kd.at_int HR1.out x5_1 p242 q242
                cases e242
                replace p242 := eq_true p242
                replace q242 := eq_true q242
                go_wp2
                repeat (go_quiet (fail); try go_wp2)
                go_roundg k1
                case measure => have := HK1.out; omega
                case rel => exact ⟨(wrap64 (x5_1 + 1)), (by first | rfl | (simp; done) | (simp [*]; done)), H', ⟨by have := HK1.out; omega⟩, by repeat (first | exact Drawn0.refl _ | apply Drawn0.step)⟩
              · rw [if_neg c7] at H
                have c7b0 : ((rd l0 x5_1) == (rd l1 x5_1)) = false := beq_eq_false_iff_ne.mpr c7
                have c7b1 : ((rd l0 x5_1) != (rd l1 x5_1)) = true := bne_iff_ne.mpr c7
                obtain rfl := Option.some.inj H
                have p241 : 0 ≤ (x5_1 : Int) := of_decide_eq_true (by first | (with_reducible assumption) | assumption)
                have q241 : x5_1 < (l0.length : Int) := of_decide_eq_true (by first | (with_reducible assumption) | assumption)
                obtain ⟨ad241, e241, hx241_0⟩ := Kd.at_int HR0.out x5_1 p241 q241
                cases e241
                replace p241 := eq_true p241
                replace q241 := eq_true q241
                have p242 : 0 ≤ (x5_1 : Int) := of_decide_eq_true (by first | (with_reducible assumption) | assumption)
                have q242 : x5_1 < (l1.length : Int) := of_decide_eq_true (by first | (with_reducible assumption) | assumption)
                obtain ⟨ad242, e242, hx242_0⟩ := Kd.at_int HR1.out x5_1 p242 q242
                cases e242
                replace p242 := eq_true p242
                replace q242 := eq_true q242
                go_wp2
                repeat (go_quiet (fail); try go_wp2)
                go_ret
                exact ⟨by first | rfl | (simp; done) | (simp [*]; done), by repeat (first | exact Drawn0.refl _ | apply Drawn0.step)⟩
            · rw [if_neg c6] at H
              exact absurd H (by simp)
          · rw [if_neg c5] at H
            exact absurd H (by simp)
        · rw [if_neg c4] at H
          have c4b0 : decide (x5_1 < (l0.length : Int)) = false := decide_eq_false c4
          clear c4
          obtain rfl := Option.some.inj H
          go_wp2
          repeat (go_quiet (fail); try go_wp2)
          go_ret
          exact ⟨by first | rfl | (simp; done) | (simp [*]; done), by repeat (first | exact Drawn0.refl _ | apply Drawn0.step)⟩
  · rw [if_neg c3] at H
    have c3b0 : ((l0.length : Int) == (l1.length : Int)) = false := beq_eq_false_iff_ne.mpr c3
    have c3b1 : ((l0.length : Int) != (l1.length : Int)) = true := bne_iff_ne.mpr c3
    have c3b2 : (l0.length == l1.length) = false := by first | simpa using c3 | (simp at c3 ⊢; omega)
    obtain rfl := Option.some.inj H
    go_enter Try.func21, Try.ntmps21
    go_wp2
    repeat (go_quiet (fail); try go_wp2)
    go_ret
    exact ⟨by first | rfl | (simp; done) | (simp [*]; done), by repeat (first | exact Drawn0.refl _ | apply Drawn0.step)⟩
end Go.Proofs.Ytmolbbebglfhmaa.A
