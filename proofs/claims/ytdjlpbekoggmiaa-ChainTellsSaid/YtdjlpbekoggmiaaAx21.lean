/- Lean functions that answer as the Go functions do, and the proofs that they do; no conditions. Written by this session's own driver: a scratch copy of the kit's print with the session's additions (wip/xprint). -/
import Derived.Test.YtdjlpbekoggmiaaAx0
import Derived.Test.YtdjlpbekoggmiaaAx4
import Derived.Test.YtdjlpbekoggmiaaAx7
import Derived.Test.YtdjlpbekoggmiaaAx8
import Derived.Test.YtdjlpbekoggmiaaAx9
import Derived.Test.YtdjlpbekoggmiaaAx11
import Derived.Test.YtdjlpbekoggmiaaAx12
import Derived.Test.YtdjlpbekoggmiaaAx15
import Derived.Test.YtdjlpbekoggmiaaAx16
import Derived.Test.YtdjlpbekoggmiaaAx17
import Derived.Test.YtdjlpbekoggmiaaAx18
import Derived.Test.YtdjlpbekoggmiaaAx19
import Derived.Test.YtdjlpbekoggmiaaAx20
namespace Go.Proofs.Ytdjlpbekoggmiaa.A
open Go.RowKit Go.Proofs.YtdjlpbekoggmiaaW.PrintWords Go.Proofs.YtdjlpbekoggmiaaW.PrintLast Go.Proofs.YtdjlpbekoggmiaaW.PrintMore
attribute [local go_sem] max2_int min2_int max_two min_two max_three min_three max_four min_four   -- for this text's walks alone
set_option linter.unusedVariables false
set_option linter.unusedSimpArgs false

/-! ### fullerlaw17_ChainTells: function 3 -/
mutual
def fullerlaw17_ChainTells.j0 : Nat → List (S41) → Int → Bool → Bool → List Int → List Int → Option (Bool)
 | 0, _, _, _, _, _, _ => none
 | k + 1, x0, x1, x7, x25, x288000, x288001 => if x25 = true then (some x7) else ((chain_Read.f k x0 x1).bind fun bt291 => ((fullerref17_Read.f k x0 x1).bind fun bt299 => ((chain_Put.f k x0 x1 x288000 x288001).bind fun bt307 => ((fullerref17_Put.f k x0 x1 x288000 x288001).bind fun bt311 => ((fullerref03_Same.f k bt291.1 bt291.2.1 bt299.1 bt299.2.1).bind fun t315 => (if t315 = true then (if (bt291.2.2 == bt299.2.2) = true then ((fullerref17_Same.f k bt307.1 bt311.1).bind fun t316 => (if t316 = true then (fullerlaw17_ChainTells.j1 k x0 x1 x7 (bt307.2 == bt311.2)) else (fullerlaw17_ChainTells.j1 k x0 x1 x7 false))) else (fullerlaw17_ChainTells.j1 k x0 x1 x7 false)) else (fullerlaw17_ChainTells.j1 k x0 x1 x7 false)))))))
def fullerlaw17_ChainTells.j1 : Nat → List (S41) → Int → Bool → Bool → Option (Bool)
 | 0, _, _, _, _ => none
 | k + 1, x0, x1, x7, x16 => if x7 = true then (if x16 = true then ((chain_Check.f k x0).bind fun t317 => ((fullerref17_Check.f k x0).bind fun t318 => (if (t317 == t318) = true then ((chain_Newer.f k x0 x1).bind fun t319 => ((fullerref17_Newer.f k x0 x1).bind fun t320 => (if (t319 == t320) = true then ((chain_Trim.f k x0 x1).bind fun t321 => ((fullerref17_Trim.f k x0 x1).bind fun t324 => ((fullerref17_Same.f k t321 t324).bind fun t327 => (some t327)))) else (some false)))) else (some false)))) else (some false)) else (some false)
end
def fullerlaw17_ChainTells.f (k : Nat) (l0 : List (S41)) (a1 : Int) (l2_0 : List Int) (l2_1 : List Int) : Option (Bool) := (fullerlaw17_awake.f k).bind fun t288 => ((fullerref17_Few.f k l0).bind fun t289 => (if t289 = true then ((fullerref03_Few.f l2_0 l2_1).bind fun t290 => (fullerlaw17_ChainTells.j0 k l0 a1 t288 (!t290) l2_0 l2_1)) else (fullerlaw17_ChainTells.j0 k l0 a1 t288 true l2_0 l2_1)))
theorem fullerlaw17_ChainTells.mono_l : ∀ k, (∀ y0 y1 y2 y3 y4 y5, LeO (fullerlaw17_ChainTells.j0 k y0 y1 y2 y3 y4 y5) (fullerlaw17_ChainTells.j0 (k + 1) y0 y1 y2 y3 y4 y5)) ∧ (∀ y0 y1 y2 y3, LeO (fullerlaw17_ChainTells.j1 k y0 y1 y2 y3) (fullerlaw17_ChainTells.j1 (k + 1) y0 y1 y2 y3))
 | 0 => ⟨fun _ _ _ _ _ _ r h => by simp [fullerlaw17_ChainTells.j0] at h, fun _ _ _ _ r h => by simp [fullerlaw17_ChainTells.j1] at h⟩
 | k + 1 => by
  obtain ⟨ih0, ih1⟩ := fullerlaw17_ChainTells.mono_l k
  refine ⟨?_, ?_⟩
  ·intro y0 y1 y2 y3 y4 y5
   unfold fullerlaw17_ChainTells.j0
   repeat' first
   | (with_reducible exact ih0 _ _ _ _ _ _)
   | (with_reducible exact ih1 _ _ _ _)
   | (with_reducible exact chain_Check.mono _ _)
   | (with_reducible exact chain_Newer.mono _ _ _)
   | (with_reducible exact chain_Put.mono _ _ _ _ _)
   | (with_reducible exact chain_Read.mono _ _ _)
   | (with_reducible exact chain_Trim.mono _ _ _)
   | (with_reducible exact fullerlaw17_awake.mono _)
   | (with_reducible exact fullerref03_Same.mono _ _ _ _ _)
   | (with_reducible exact fullerref17_Check.mono _ _)
   | (with_reducible exact fullerref17_Few.mono _ _)
   | (with_reducible exact fullerref17_Newer.mono _ _ _)
   | (with_reducible exact fullerref17_Put.mono _ _ _ _ _)
   | (with_reducible exact fullerref17_Read.mono _ _ _)
   | (with_reducible exact fullerref17_Same.mono _ _ _)
   | (with_reducible exact fullerref17_Trim.mono _ _ _)
   | (with_reducible exact LeO.refl _)
   | (with_reducible exact LeO.none _)
   | (with_reducible refine LeO.ite ?_ ?_)
   | (with_reducible refine LeO.bind ?_ (fun _ => ?_))
   | exact ih0 _ _ _ _ _ _
   | exact ih1 _ _ _ _
   | exact chain_Check.mono _ _
   | exact chain_Newer.mono _ _ _
   | exact chain_Put.mono _ _ _ _ _
   | exact chain_Read.mono _ _ _
   | exact chain_Trim.mono _ _ _
   | exact fullerlaw17_awake.mono _
   | exact fullerref03_Same.mono _ _ _ _ _
   | exact fullerref17_Check.mono _ _
   | exact fullerref17_Few.mono _ _
   | exact fullerref17_Newer.mono _ _ _
   | exact fullerref17_Put.mono _ _ _ _ _
   | exact fullerref17_Read.mono _ _ _
   | exact fullerref17_Same.mono _ _ _
   | exact fullerref17_Trim.mono _ _ _
   | exact LeO.none _
   | refine LeO.ite ?_ ?_
   | refine LeO.bind ?_ (fun _ => ?_)
  ·intro y0 y1 y2 y3
   unfold fullerlaw17_ChainTells.j1
   repeat' first
   | (with_reducible exact ih0 _ _ _ _ _ _)
   | (with_reducible exact ih1 _ _ _ _)
   | (with_reducible exact chain_Check.mono _ _)
   | (with_reducible exact chain_Newer.mono _ _ _)
   | (with_reducible exact chain_Put.mono _ _ _ _ _)
   | (with_reducible exact chain_Read.mono _ _ _)
   | (with_reducible exact chain_Trim.mono _ _ _)
   | (with_reducible exact fullerlaw17_awake.mono _)
   | (with_reducible exact fullerref03_Same.mono _ _ _ _ _)
   | (with_reducible exact fullerref17_Check.mono _ _)
   | (with_reducible exact fullerref17_Few.mono _ _)
   | (with_reducible exact fullerref17_Newer.mono _ _ _)
   | (with_reducible exact fullerref17_Put.mono _ _ _ _ _)
   | (with_reducible exact fullerref17_Read.mono _ _ _)
   | (with_reducible exact fullerref17_Same.mono _ _ _)
   | (with_reducible exact fullerref17_Trim.mono _ _ _)
   | (with_reducible exact LeO.refl _)
   | (with_reducible exact LeO.none _)
   | (with_reducible refine LeO.ite ?_ ?_)
   | (with_reducible refine LeO.bind ?_ (fun _ => ?_))
   | exact ih0 _ _ _ _ _ _
   | exact ih1 _ _ _ _
   | exact chain_Check.mono _ _
   | exact chain_Newer.mono _ _ _
   | exact chain_Put.mono _ _ _ _ _
   | exact chain_Read.mono _ _ _
   | exact chain_Trim.mono _ _ _
   | exact fullerlaw17_awake.mono _
   | exact fullerref03_Same.mono _ _ _ _ _
   | exact fullerref17_Check.mono _ _
   | exact fullerref17_Few.mono _ _
   | exact fullerref17_Newer.mono _ _ _
   | exact fullerref17_Put.mono _ _ _ _ _
   | exact fullerref17_Read.mono _ _ _
   | exact fullerref17_Same.mono _ _ _
   | exact fullerref17_Trim.mono _ _ _
   | exact LeO.none _
   | refine LeO.ite ?_ ?_
   | refine LeO.bind ?_ (fun _ => ?_)
theorem fullerlaw17_ChainTells.mono : ∀ a0 a1 a2 a3 k, LeO (fullerlaw17_ChainTells.f k a0 a1 a2 a3) (fullerlaw17_ChainTells.f (k + 1) a0 a1 a2 a3) := by
 intro a0 a1 a2 a3 k
 obtain ⟨ih0, ih1⟩ := fullerlaw17_ChainTells.mono_l k
 unfold fullerlaw17_ChainTells.f
 repeat' first
   | (with_reducible exact ih0 _ _ _ _ _ _)
   | (with_reducible exact ih1 _ _ _ _)
   | (with_reducible exact chain_Check.mono _ _)
   | (with_reducible exact chain_Newer.mono _ _ _)
   | (with_reducible exact chain_Put.mono _ _ _ _ _)
   | (with_reducible exact chain_Read.mono _ _ _)
   | (with_reducible exact chain_Trim.mono _ _ _)
   | (with_reducible exact fullerlaw17_awake.mono _)
   | (with_reducible exact fullerref03_Same.mono _ _ _ _ _)
   | (with_reducible exact fullerref17_Check.mono _ _)
   | (with_reducible exact fullerref17_Few.mono _ _)
   | (with_reducible exact fullerref17_Newer.mono _ _ _)
   | (with_reducible exact fullerref17_Put.mono _ _ _ _ _)
   | (with_reducible exact fullerref17_Read.mono _ _ _)
   | (with_reducible exact fullerref17_Same.mono _ _ _)
   | (with_reducible exact fullerref17_Trim.mono _ _ _)
   | (with_reducible exact LeO.refl _)
   | (with_reducible exact LeO.none _)
   | (with_reducible refine LeO.ite ?_ ?_)
   | (with_reducible refine LeO.bind ?_ (fun _ => ?_))
   | exact ih0 _ _ _ _ _ _
   | exact ih1 _ _ _ _
   | exact chain_Check.mono _ _
   | exact chain_Newer.mono _ _ _
   | exact chain_Put.mono _ _ _ _ _
   | exact chain_Read.mono _ _ _
   | exact chain_Trim.mono _ _ _
   | exact fullerlaw17_awake.mono _
   | exact fullerref03_Same.mono _ _ _ _ _
   | exact fullerref17_Check.mono _ _
   | exact fullerref17_Few.mono _ _
   | exact fullerref17_Newer.mono _ _ _
   | exact fullerref17_Put.mono _ _ _ _ _
   | exact fullerref17_Read.mono _ _ _
   | exact fullerref17_Same.mono _ _ _
   | exact fullerref17_Trim.mono _ _ _
   | exact LeO.none _
   | refine LeO.ite ?_ ?_
   | refine LeO.bind ?_ (fun _ => ?_)
set_option maxHeartbeats 8000000 in
set_option maxRecDepth 100000 in
theorem fullerlaw17_ChainTells.calls (k : Nat) (A0 : Option Addr) (c0 : Nat) (l0 : List (S41)) (a1 : Int) (A2_0 : Option Addr) (c2_0 : Nat) (l2_0 : List Int) (A2_1 : Option Addr) (c2_1 : Nat) (l2_1 : List Int) (r : Bool) (w : World) (hr0 : Kd.C k41 w A0 l0.length l0) (hc0 : l0.length ≤ c0) (hr2_0 : Kd.C (Kd.int .i64) w A2_0 l2_0.length l2_0) (hc2_0 : l2_0.length ≤ c2_0) (hr2_1 : Kd.C (Kd.int .i64) w A2_1 l2_1.length l2_1) (hc2_1 : l2_1.length ≤ c2_1) (h : fullerlaw17_ChainTells.f k l0 a1 l2_0 l2_1 = some r) :
  Calls Try.prog 3 #[.slice A0 l0.length c0, .int .i64 a1, .agg #[.slice A2_0 l2_0.length c2_0, .slice A2_1 l2_1.length c2_1]] w fun e w' => e = .returned (.bool r) ∧ Below w.heap.size w w' := by
 have hu25 := Try.underlying25
 have HR0 := Aside0.mk hr0
 have HC0 := Aside0.mk hc0
 clear hr0 hc0
 have HR2_0 := Aside0.mk hr2_0
 have HC2_0 := Aside0.mk hc2_0
 clear hr2_0 hc2_0
 have HR2_1 := Aside0.mk hr2_1
 have HC2_1 := Aside0.mk hc2_1
 clear hr2_1 hc2_1
 have HB := Aside0.mk (Below.refl w.heap.size w)
 have H : ((fullerlaw17_awake.f k).bind fun t288 => ((fullerref17_Few.f k l0).bind fun t289 => (if t289 = true then ((fullerref03_Few.f l2_0 l2_1).bind fun t290 => (fullerlaw17_ChainTells.j0 k l0 a1 t288 (!t290) l2_0 l2_1)) else (fullerlaw17_ChainTells.j0 k l0 a1 t288 true l2_0 l2_1)))) = some r := h
 clear h
 replace H := Option.bind_eq_some_iff.mp H
 obtain ⟨t288, A40, H⟩ := H
 replace H : ((fullerref17_Few.f k l0).bind fun t289 => (if t289 = true then ((fullerref03_Few.f l2_0 l2_1).bind fun t290 => (fullerlaw17_ChainTells.j0 k l0 a1 t288 (!t290) l2_0 l2_1)) else (fullerlaw17_ChainTells.j0 k l0 a1 t288 true l2_0 l2_1))) = some r := H
 have A4 := Aside0.mk A40
 clear A40
 have HC5 := Aside0.mk H
 clear H
 go_enter Try.func3, Try.ntmps3
 go_upto_region 2 with (first | ((with_reducible refine gate_dst (N := 5) rfl ?_); refine box_event ?hg (N := 5) ?hd (cs := #[.slice A2_0 l2_0.length c2_0, .slice A2_1 l2_1.length c2_1]) (t := 25) ?hr ?_; (case hd => rfl); (case hg => rfl); (case hr => first | (go_simp; done) | (go_simp; rfl)); intro gb287 hg w6 hbox hb; have n0_ := Aside0.mk (below_step (bq0_ HB.out) hb); have n1_ := Aside0.mk (hbox); have n2_ := Aside0.mk ((by rw [hg]; exact (below_size (bq0_ HB.out)) : w.heap.size ≤ gb287)); have n3_ := Aside0.mk ((by rw [hg]; exact (below_size (bq0_ HB.out)) : w.heap.size ≤ gb287)); clear HB; have HB := n0_; have BK287 := n1_; have GW287 := n2_; have GE287 := n3_; clear n0_ n1_ n2_ n3_; clear hb hbox hg) | ((with_reducible refine gate_callee (f := 8) rfl ?_); refine goesL_ (some 17) rfl rfl Try.func8 (by kernel_rfl) rfl #[] rfl (by (try simp only [List.map_toArray, List.map_cons, List.map_nil]); first | done | rfl | (simp only [List.length_drop, List.length_take]; rfl)) ?_; (with_reducible refine (fullerlaw17_awake.calls k  t288 _ A4.out).mono ?_); rintro e w7 ⟨rfl, hb⟩; refine ⟨_, rfl, ?_⟩; have n0_ := Aside0.mk (blk_below (g := gb287) (o := .cells #[.slice A2_0 l2_0.length c2_0, .slice A2_1 l2_1.length c2_1] 25 (0, 0)) (mvK_ BK287.out) hb); have n1_ := Aside0.mk (below_step (bq1_ HB.out GE287.out) hb); clear BK287; clear HB; have BK287 := n0_; have HB := n1_; clear n0_ n1_; (try clear hb); (try clear hb2); (try clear hk); (try clear hi)))
 (try simp only [Act.put, sA_, sB_, sC_])
 go_cut [25] (fun v25 wc => ∃ (kq : Nat) (x25_4 : Bool), v25 = .bool x25_4 ∧ Aside0 (fullerlaw17_ChainTells.j0 kq l0 a1 t288 x25_4 l2_0 l2_1 = some r) ∧ Aside0 (kq ≤ k) ∧ Aside0 (wc.heap[gb287]? = some (.cells #[(.slice A2_0 l2_0.length c2_0), (.slice A2_1 l2_1.length c2_1)] 25 (0, 0))) ∧ Aside0 (Below w.heap.size w wc))
 case first =>
  have H := HC5.out
  clear HC5
  replace H := Option.bind_eq_some_iff.mp H
  obtain ⟨t289, A80, H⟩ := H
  replace H : (if t289 = true then ((fullerref03_Few.f l2_0 l2_1).bind fun t290 => (fullerlaw17_ChainTells.j0 k l0 a1 t288 (!t290) l2_0 l2_1)) else (fullerlaw17_ChainTells.j0 k l0 a1 t288 true l2_0 l2_1)) = some r := H
  have A8 := Aside0.mk A80
  clear A80
  by_cases c9 : t289 = true
  ·subst c9
   have H1 : ((fullerref03_Few.f l2_0 l2_1).bind fun t290 => (fullerlaw17_ChainTells.j0 k l0 a1 t288 (!t290) l2_0 l2_1)) = some r := by rw [if_pos rfl] at H; exact H
   clear H
   have H := H1
   clear H1
   replace H := Option.bind_eq_some_iff.mp H
   obtain ⟨t290, A100, H⟩ := H
   replace H : (fullerlaw17_ChainTells.j0 k l0 a1 t288 (!t290) l2_0 l2_1) = some r := H
   have A10 := Aside0.mk A100
   clear A100
   have H' := Aside0.mk H
   clear H
   go_wp2_with (first | ((with_reducible refine gate_callee (f := 9) rfl ?_); refine goesL_ (some 19) rfl rfl Try.func9 (by kernel_rfl) rfl #[.slice A0 l0.length c0] rfl (by (try simp only [List.map_toArray, List.map_cons, List.map_nil]); first | done | rfl | (simp only [List.length_drop, List.length_take]; rfl)) ?_; (with_reducible refine (fullerref17_Few.calls k _ _ l0 true _ ?side1 ?side2 A8.out).mono ?_); (case side1 => repeat (first | exact (Kd.C_below HR0.out HB.out) | (with_reducible refine Kd.C_alloc ?_ _) | (with_reducible refine Kd.C_drewN ?_ _) | (with_reducible refine Kd.C_drew ?_))); (case side2 => exact HC0.out); rintro e w11 ⟨rfl, hb⟩; refine ⟨_, rfl, ?_⟩; have n0_ := Aside0.mk (blk_below (g := gb287) (o := .cells #[.slice A2_0 l2_0.length c2_0, .slice A2_1 l2_1.length c2_1] 25 (0, 0)) (mvK_ BK287.out) hb); have n1_ := Aside0.mk (below_step (bq1_ HB.out GE287.out) hb); clear BK287; clear HB; have BK287 := n0_; have HB := n1_; clear n0_ n1_; (try clear hb); (try clear hb2); (try clear hk); (try clear hi); have hcz12_0 : w11.cell? ⟨gb287, 0, none⟩ = some (.slice A2_0 l2_0.length c2_0) := (blk_cell BK287.out 0).trans rfl; have hcz12_1 : w11.cell? ⟨gb287, 1, none⟩ = some (.slice A2_1 l2_1.length c2_1) := (blk_cell BK287.out 1).trans rfl; have hfz12_0 := blk_frozen BK287.out 0; have hfz12_1 := blk_frozen BK287.out 1) | (go_at_call 10; (with_reducible refine (fullerref03_Few.calls _ _ l2_0 _ _ l2_1 t290 _ ?side1 ?side2 ?side3 ?side4 A10.out).mono ?_); (case side1 => repeat (first | exact (Kd.C_below HR2_0.out HB.out) | (with_reducible refine Kd.C_alloc ?_ _) | (with_reducible refine Kd.C_drewN ?_ _) | (with_reducible refine Kd.C_drew ?_))); (case side2 => exact HC2_0.out); (case side3 => repeat (first | exact (Kd.C_below HR2_1.out HB.out) | (with_reducible refine Kd.C_alloc ?_ _) | (with_reducible refine Kd.C_drewN ?_ _) | (with_reducible refine Kd.C_drew ?_))); (case side4 => exact HC2_1.out); rintro e w13 ⟨rfl, hb⟩; have n0_ := Aside0.mk (blk_below (g := gb287) (o := .cells #[.slice A2_0 l2_0.length c2_0, .slice A2_1 l2_1.length c2_1] 25 (0, 0)) (mvK_ BK287.out) hb); have n1_ := Aside0.mk (below_step (bq1_ HB.out GE287.out) hb); clear BK287; clear HB; have BK287 := n0_; have HB := n1_; clear n0_ n1_; (try clear hb); (try clear hb2); (try clear hk); (try clear hi)))
   go_meet
   case rel => exact ⟨_, (!t290), (by first | rfl | (simp; done) | (simp [*]; done)), H', ⟨by first | omega | exact Nat.le_refl _⟩, ⟨by (with_reducible repeat (first | refine blk_drewN ?_ _ | refine blk_drew ?_ | refine blk_alloc ?_ _)); exact BK287.out⟩, ⟨by repeat (first | (with_reducible first | exact HB.out | apply below_alloc | apply pw_below_drewN | apply below_drew1 | refine below_set ?_ GE287.out) | exact HB.out)⟩⟩
  ·replace c9 := Bool.eq_false_iff.mpr c9
   subst c9
   have H1 : (fullerlaw17_ChainTells.j0 k l0 a1 t288 true l2_0 l2_1) = some r := by rw [if_neg (show ¬ (false = true) by decide)] at H; exact H
   clear H
   have H := H1
   clear H1
   have H' := Aside0.mk H
   clear H
   go_wp2_with (first | ((with_reducible refine gate_callee (f := 9) rfl ?_); refine goesL_ (some 19) rfl rfl Try.func9 (by kernel_rfl) rfl #[.slice A0 l0.length c0] rfl (by (try simp only [List.map_toArray, List.map_cons, List.map_nil]); first | done | rfl | (simp only [List.length_drop, List.length_take]; rfl)) ?_; (with_reducible refine (fullerref17_Few.calls k _ _ l0 false _ ?side1 ?side2 A8.out).mono ?_); (case side1 => repeat (first | exact (Kd.C_below HR0.out HB.out) | (with_reducible refine Kd.C_alloc ?_ _) | (with_reducible refine Kd.C_drewN ?_ _) | (with_reducible refine Kd.C_drew ?_))); (case side2 => exact HC0.out); rintro e w14 ⟨rfl, hb⟩; refine ⟨_, rfl, ?_⟩; have n0_ := Aside0.mk (blk_below (g := gb287) (o := .cells #[.slice A2_0 l2_0.length c2_0, .slice A2_1 l2_1.length c2_1] 25 (0, 0)) (mvK_ BK287.out) hb); have n1_ := Aside0.mk (below_step (bq1_ HB.out GE287.out) hb); clear BK287; clear HB; have BK287 := n0_; have HB := n1_; clear n0_ n1_; (try clear hb); (try clear hb2); (try clear hk); (try clear hi)))
   go_meet
   case rel => exact ⟨_, (true), (by first | rfl | (simp; done) | (simp [*]; done)), H', ⟨by first | omega | exact Nat.le_refl _⟩, ⟨by (with_reducible repeat (first | refine blk_drewN ?_ _ | refine blk_drew ?_ | refine blk_alloc ?_ _)); exact BK287.out⟩, ⟨by repeat (first | (with_reducible first | exact HB.out | apply below_alloc | apply pw_below_drewN | apply below_drew1 | refine below_set ?_ GE287.out) | exact HB.out)⟩⟩
 case rest =>
  clear HC5
  try clear c2
  try clear p2
  try clear c3
  try clear c8
  try clear c9
  try clear hcz12_0
  try clear hcz12_1
  try clear hfz12_0
  try clear hfz12_1
  obtain ⟨kq, x25_4, rfl, HA, HJ4, BK287, HB⟩ := hcut
  cases kq with
  | zero => exact absurd HA.out (by simp [fullerlaw17_ChainTells.j0])
  | succ kj4 =>
   have H := HA.out
   clear HA
   simp only [fullerlaw17_ChainTells.j0] at H
   by_cases c15 : x25_4 = true
   ·subst c15
    have H1 : (some t288) = some r := by rw [if_pos rfl] at H; exact H
    clear H
    have H := H1
    clear H1
    obtain rfl := Option.some.inj H
    go_wp2
    go_ret
    exact ⟨by first | rfl | (simp [errW_none, errW_some] <;> rfl) | (simp [*, errW_none, errW_some] <;> rfl), by repeat (first | (with_reducible first | exact HB.out | apply below_alloc | apply pw_below_drewN | apply below_drew1 | refine below_set ?_ GE287.out) | exact HB.out)⟩
   ·replace c15 := Bool.eq_false_iff.mpr c15
    subst c15
    have H1 : ((chain_Read.f kj4 l0 a1).bind fun bt291 => ((fullerref17_Read.f kj4 l0 a1).bind fun bt299 => ((chain_Put.f kj4 l0 a1 l2_0 l2_1).bind fun bt307 => ((fullerref17_Put.f kj4 l0 a1 l2_0 l2_1).bind fun bt311 => ((fullerref03_Same.f kj4 bt291.1 bt291.2.1 bt299.1 bt299.2.1).bind fun t315 => (if t315 = true then (if (bt291.2.2 == bt299.2.2) = true then ((fullerref17_Same.f kj4 bt307.1 bt311.1).bind fun t316 => (if t316 = true then (fullerlaw17_ChainTells.j1 kj4 l0 a1 t288 (bt307.2 == bt311.2)) else (fullerlaw17_ChainTells.j1 kj4 l0 a1 t288 false))) else (fullerlaw17_ChainTells.j1 kj4 l0 a1 t288 false)) else (fullerlaw17_ChainTells.j1 kj4 l0 a1 t288 false))))))) = some r := by rw [if_neg (show ¬ (false = true) by decide)] at H; exact H
    clear H
    have H := H1
    clear H1
    replace H := Option.bind_eq_some_iff.mp H
    obtain ⟨⟨t291, t294, t297⟩, A160, H⟩ := H
    replace H : ((fullerref17_Read.f kj4 l0 a1).bind fun bt299 => ((chain_Put.f kj4 l0 a1 l2_0 l2_1).bind fun bt307 => ((fullerref17_Put.f kj4 l0 a1 l2_0 l2_1).bind fun bt311 => ((fullerref03_Same.f kj4 t291 t294 bt299.1 bt299.2.1).bind fun t315 => (if t315 = true then (if (t297 == bt299.2.2) = true then ((fullerref17_Same.f kj4 bt307.1 bt311.1).bind fun t316 => (if t316 = true then (fullerlaw17_ChainTells.j1 kj4 l0 a1 t288 (bt307.2 == bt311.2)) else (fullerlaw17_ChainTells.j1 kj4 l0 a1 t288 false))) else (fullerlaw17_ChainTells.j1 kj4 l0 a1 t288 false)) else (fullerlaw17_ChainTells.j1 kj4 l0 a1 t288 false)))))) = some r := H
    have A16 := Aside0.mk A160
    clear A160
    replace H := Option.bind_eq_some_iff.mp H
    obtain ⟨⟨t299, t302, t305⟩, A170, H⟩ := H
    replace H : ((chain_Put.f kj4 l0 a1 l2_0 l2_1).bind fun bt307 => ((fullerref17_Put.f kj4 l0 a1 l2_0 l2_1).bind fun bt311 => ((fullerref03_Same.f kj4 t291 t294 t299 t302).bind fun t315 => (if t315 = true then (if (t297 == t305) = true then ((fullerref17_Same.f kj4 bt307.1 bt311.1).bind fun t316 => (if t316 = true then (fullerlaw17_ChainTells.j1 kj4 l0 a1 t288 (bt307.2 == bt311.2)) else (fullerlaw17_ChainTells.j1 kj4 l0 a1 t288 false))) else (fullerlaw17_ChainTells.j1 kj4 l0 a1 t288 false)) else (fullerlaw17_ChainTells.j1 kj4 l0 a1 t288 false))))) = some r := H
    have A17 := Aside0.mk A170
    clear A170
    replace H := Option.bind_eq_some_iff.mp H
    obtain ⟨⟨t307, t310⟩, A180, H⟩ := H
    replace H : ((fullerref17_Put.f kj4 l0 a1 l2_0 l2_1).bind fun bt311 => ((fullerref03_Same.f kj4 t291 t294 t299 t302).bind fun t315 => (if t315 = true then (if (t297 == t305) = true then ((fullerref17_Same.f kj4 t307 bt311.1).bind fun t316 => (if t316 = true then (fullerlaw17_ChainTells.j1 kj4 l0 a1 t288 (t310 == bt311.2)) else (fullerlaw17_ChainTells.j1 kj4 l0 a1 t288 false))) else (fullerlaw17_ChainTells.j1 kj4 l0 a1 t288 false)) else (fullerlaw17_ChainTells.j1 kj4 l0 a1 t288 false)))) = some r := H
    have A18 := Aside0.mk A180
    clear A180
    replace H := Option.bind_eq_some_iff.mp H
    obtain ⟨⟨t311, t314⟩, A190, H⟩ := H
    replace H : ((fullerref03_Same.f kj4 t291 t294 t299 t302).bind fun t315 => (if t315 = true then (if (t297 == t305) = true then ((fullerref17_Same.f kj4 t307 t311).bind fun t316 => (if t316 = true then (fullerlaw17_ChainTells.j1 kj4 l0 a1 t288 (t310 == t314)) else (fullerlaw17_ChainTells.j1 kj4 l0 a1 t288 false))) else (fullerlaw17_ChainTells.j1 kj4 l0 a1 t288 false)) else (fullerlaw17_ChainTells.j1 kj4 l0 a1 t288 false))) = some r := H
    have A19 := Aside0.mk A190
    clear A190
    have HC20 := Aside0.mk H
    clear H
    go_upto_region 8 with (first | ((with_reducible refine gate_callee (f := 11) rfl ?_); refine goesL_ (some 30) rfl rfl Try.func11 (by kernel_rfl) rfl #[.slice A0 l0.length c0, .int .i64 a1] rfl (by (try simp only [List.map_toArray, List.map_cons, List.map_nil]); first | done | rfl | (simp only [List.length_drop, List.length_take]; rfl)) ?_; (with_reducible refine (chain_Read.calls kj4 _ _ l0 a1 t291 t294 t297 _ ?side1 ?side2 A16.out).mono ?_); (case side1 => repeat (first | exact (Kd.C_below HR0.out HB.out) | (with_reducible refine Kd.C_alloc ?_ _) | (with_reducible refine Kd.C_drewN ?_ _) | (with_reducible refine Kd.C_drew ?_))); (case side2 => exact HC0.out); rintro e w21 ⟨v292, v295, rfl, ho0, ho1, hb⟩; refine ⟨_, rfl, ?_⟩; have n0_ := Aside0.mk (Kd.R_lower ho0 (below_size (bq1_ HB.out GE287.out))); have n1_ := Aside0.mk (Kd.R_lower ho1 (below_size (bq1_ HB.out GE287.out))); have n2_ := Aside0.mk (blk_below (g := gb287) (o := .cells #[.slice A2_0 l2_0.length c2_0, .slice A2_1 l2_1.length c2_1] 25 (0, 0)) (mvK_ BK287.out) hb); have n3_ := Aside0.mk (below_step (bq1_ HB.out GE287.out) hb); clear BK287; clear HB; have HO293 := n0_; have HO296 := n1_; have BK287 := n2_; have HB := n3_; clear n0_ n1_ n2_ n3_; (try clear hb); (try clear hb2); (try clear hk); (try clear hi); (try clear ho0); (try clear ho1)) | ((with_reducible refine gate_dst (N := 8) rfl ?_); refine box_event ?hg (N := 8) ?hd (cs := #[.slice none 0 0, .slice none 0 0]) (t := 25) ?hr ?_; (case hd => rfl); (case hg => rfl); (case hr => first | (go_simp; done) | (go_simp; rfl)); intro gb298 hg w22 hbox hb; have n0_ := Aside0.mk (Kd.R_below (mvR_ HO293.out) hb); have n1_ := Aside0.mk (Kd.R_below (mvR_ HO296.out) hb); have n2_ := Aside0.mk (blk_below (g := gb287) (o := .cells #[.slice A2_0 l2_0.length c2_0, .slice A2_1 l2_1.length c2_1] 25 (0, 0)) (mvK_ BK287.out) hb); have n3_ := Aside0.mk (below_step (bq1_ HB.out GE287.out) hb); have n4_ := Aside0.mk (hbox); have n5_ := Aside0.mk ((by rw [hg]; exact (below_size (bq1_ HB.out GE287.out)) : w.heap.size ≤ gb298)); have n6_ := Aside0.mk ((by rw [hg]; exact (below_size (bq1_ HB.out GE287.out)) : w.heap.size ≤ gb298)); have n7_ := Aside0.mk ((by rw [hg]; exact Nat.ne_of_lt (blk_lt (g := gb287) (o := .cells #[.slice A2_0 l2_0.length c2_0, .slice A2_1 l2_1.length c2_1] 25 (0, 0)) (mvK_ BK287.out)) : gb287 ≠ gb298)); have n8_ := Aside0.mk ((by rw [hg]; exact Nat.ne_of_gt (blk_lt (g := gb287) (o := .cells #[.slice A2_0 l2_0.length c2_0, .slice A2_1 l2_1.length c2_1] 25 (0, 0)) (mvK_ BK287.out)) : gb298 ≠ gb287)); clear HO293; clear HO296; clear BK287; clear HB; have HO293 := n0_; have HO296 := n1_; have BK287 := n2_; have HB := n3_; have BK298 := n4_; have GW298 := n5_; have GE298 := n6_; have NB287_298 := n7_; have NB298_287 := n8_; clear n0_ n1_ n2_ n3_ n4_ n5_ n6_ n7_ n8_; clear hb hbox hg; obtain ⟨Ao23, co23, eo23⟩ := Kd.R_slice HO293.out; subst eo23; have hnb24 := NB298_287.out; have hnc24 := NB287_298.out; have hcz25_0 : w22.cell? ⟨gb298, 0, none⟩ = some (.slice none 0 0) := (blk_cell BK298.out 0).trans rfl; have hcz25_1 : w22.cell? ⟨gb298, 1, none⟩ = some (.slice none 0 0) := (blk_cell BK298.out 1).trans rfl; have hfz25_0 := blk_frozen BK298.out 0; have hfz25_1 := blk_frozen BK298.out 1; obtain ⟨Ao26, co26, eo26⟩ := Kd.R_slice HO296.out; subst eo26) | ((with_reducible refine gate_store (t := 25) (p := 8) rfl ?_); refine store_event (t := 25) (p := 8) (v := ?vo_w27) (w1 := ((w22.setCell ⟨gb298, 0, none⟩ (.slice Ao23 t291.length co23)).setCell ⟨gb298, 1, none⟩ (.slice Ao26 t294.length co26))) ?hg ?ho ?hn ?hr ?_; (case ho => rfl); (case hg => rfl); (case hn => rfl); (case hr => first | (go_simp; done) | (go_simp; rfl)); intro w27 hw; have n0_ : Aside0 (Kd.R (Kd.int .i64) 3 w27 w.heap.size (fun k_ => some k_ ≠ (.slice Ao26 t294.length co26 : Value).ownBlock) (.slice Ao23 t291.length co23) t291) := ⟨(by rw [hw]; exact (by (with_reducible repeat (first | apply Kd.R_alloc | apply Kd.R_drewN | apply Kd.R_drew)); exact Kd.R_mono (Kd.R_far (p := ⟨gb298, 1, none⟩) (Kd.R_far (p := ⟨gb298, 0, none⟩) (Kd.R_types HO293.out BK298.out (by decide)) (fun _ hk => hk.2) (.slice Ao23 t291.length co23)) (fun _ hk => hk.2) (.slice Ao26 t294.length co26)) (fun _ hk => hk.1)))⟩; have n1_ : Aside0 (Kd.R (Kd.int .i64) 3 w27 w.heap.size (fun k_ => some k_ ≠ (.slice Ao23 t291.length co23 : Value).ownBlock) (.slice Ao26 t294.length co26) t294) := ⟨(by rw [hw]; exact (by (with_reducible repeat (first | apply Kd.R_alloc | apply Kd.R_drewN | apply Kd.R_drew)); exact Kd.R_mono (Kd.R_far (p := ⟨gb298, 1, none⟩) (Kd.R_far (p := ⟨gb298, 0, none⟩) (Kd.R_types HO296.out BK298.out (by decide)) (fun _ hk => hk.2) (.slice Ao23 t291.length co23)) (fun _ hk => hk.2) (.slice Ao26 t294.length co26)) (fun _ hk => hk.1)))⟩; have n2_ : Aside0 (w27.heap[gb287]? = some (.cells #[.slice A2_0 l2_0.length c2_0, .slice A2_1 l2_1.length c2_1] 25 (0, 0))) := ⟨(by rw [hw]; exact (by (with_reducible repeat (first | refine blk_drewN ?_ _ | refine blk_drew ?_ | refine blk_alloc ?_ _)); refine blk_far ?_ NB287_298.out _; (with_reducible repeat (first | refine blk_drewN ?_ _ | refine blk_drew ?_ | refine blk_alloc ?_ _)); refine blk_far ?_ NB287_298.out _; (with_reducible repeat (first | refine blk_drewN ?_ _ | refine blk_drew ?_ | refine blk_alloc ?_ _)); exact BK287.out))⟩; have n3_ : Aside0 (w27.heap[gb298]? = some (.cells #[.slice Ao23 t291.length co23, .slice Ao26 t294.length co26] 25 (0, 0))) := ⟨(by rw [hw]; exact (by (with_reducible repeat (first | refine blk_drewN ?_ _ | refine blk_drew ?_ | refine blk_alloc ?_ _)); refine blk_put (cs := #[.slice Ao23 t291.length co23, .slice none 0 0]) ?_ 1 _ rfl; (with_reducible repeat (first | refine blk_drewN ?_ _ | refine blk_drew ?_ | refine blk_alloc ?_ _)); refine blk_put (cs := #[.slice none 0 0, .slice none 0 0]) ?_ 0 _ rfl; (with_reducible repeat (first | refine blk_drewN ?_ _ | refine blk_drew ?_ | refine blk_alloc ?_ _)); exact BK298.out))⟩; have n4_ : Aside0 (Below w.heap.size w w27) := ⟨(by rw [hw]; exact (bq2_ HB.out GE287.out GE298.out))⟩; clear hw; clear HO293; clear HO296; clear BK287; clear BK298; clear HB; have HO293 := n0_; have HO296 := n1_; have BK287 := n2_; have BK298 := n3_; have HB := n4_; clear n0_ n1_ n2_ n3_ n4_) | ((with_reducible refine gate_callee (f := 12) rfl ?_); refine goesL_ (some 36) rfl rfl Try.func12 (by kernel_rfl) rfl #[.slice A0 l0.length c0, .int .i64 a1] rfl (by (try simp only [List.map_toArray, List.map_cons, List.map_nil]); first | done | rfl | (simp only [List.length_drop, List.length_take]; rfl)) ?_; (with_reducible refine (fullerref17_Read.calls kj4 (fun k_ => k_ < w.heap.size) _ _ l0 a1 t299 t302 t305 _ ?side1 A17.out).mono ?_); (case side1 => exact Kd.V_mk HC0.out (Kd.F_below (Kd.C_F k41_heap HR0.out) (bq2_ HB.out GE287.out GE298.out))); rintro e w28 ⟨v300, v303, rfl, ho0, ho1, hb⟩; refine ⟨_, rfl, ?_⟩; have n0_ := Aside0.mk (Kd.R_below (mvR_ HO293.out) hb); have n1_ := Aside0.mk (Kd.R_below (mvR_ HO296.out) hb); have n2_ := Aside0.mk (Kd.V_lower (Kd.V_mono (ok' := fun k_ => some k_ ≠ (.slice Ao23 t291.length co23 : Value).ownBlock ∧ some k_ ≠ (.slice Ao26 t294.length co26 : Value).ownBlock ∧ k_ ≠ gb287 ∧ k_ ≠ gb298) ho0 (fun k_ hk_ => ⟨Or.elim hk_ (fun hs_ => fun e_ => Nat.not_le.2 hs_ (Kd.R_base HO293.out k_ e_.symm)) (fun hn_ => (Kd.fresh' (Kd.R_lt (mvR_ HO293.out)) k_ hn_)), Or.elim hk_ (fun hs_ => fun e_ => Nat.not_le.2 hs_ (Kd.R_base HO296.out k_ e_.symm)) (fun hn_ => (Kd.fresh' (Kd.R_lt (mvR_ HO296.out)) k_ hn_)), Or.elim hk_ (fun hs_ => fun e_ => Nat.not_le.2 hs_ (by rw [e_]; exact GW287.out)) (fun hn_ => (Kd.freshB (g := gb287) (o := .cells #[.slice A2_0 l2_0.length c2_0, .slice A2_1 l2_1.length c2_1] 25 (0, 0)) (mvK_ BK287.out) k_ hn_)), Or.elim hk_ (fun hs_ => fun e_ => Nat.not_le.2 hs_ (by rw [e_]; exact GW298.out)) (fun hn_ => (Kd.freshB (g := gb298) (o := .cells #[.slice Ao23 t291.length co23, .slice Ao26 t294.length co26] 25 (0, 0)) (mvK_ BK298.out) k_ hn_))⟩)) (below_size (bq2_ HB.out GE287.out GE298.out))); have n3_ := Aside0.mk (Kd.V_lower (Kd.V_mono (ok' := fun k_ => some k_ ≠ (.slice Ao23 t291.length co23 : Value).ownBlock ∧ some k_ ≠ (.slice Ao26 t294.length co26 : Value).ownBlock ∧ k_ ≠ gb287 ∧ k_ ≠ gb298) ho1 (fun k_ hk_ => ⟨Or.elim hk_ (fun hs_ => fun e_ => Nat.not_le.2 hs_ (Kd.R_base HO293.out k_ e_.symm)) (fun hn_ => (Kd.fresh' (Kd.R_lt (mvR_ HO293.out)) k_ hn_)), Or.elim hk_ (fun hs_ => fun e_ => Nat.not_le.2 hs_ (Kd.R_base HO296.out k_ e_.symm)) (fun hn_ => (Kd.fresh' (Kd.R_lt (mvR_ HO296.out)) k_ hn_)), Or.elim hk_ (fun hs_ => fun e_ => Nat.not_le.2 hs_ (by rw [e_]; exact GW287.out)) (fun hn_ => (Kd.freshB (g := gb287) (o := .cells #[.slice A2_0 l2_0.length c2_0, .slice A2_1 l2_1.length c2_1] 25 (0, 0)) (mvK_ BK287.out) k_ hn_)), Or.elim hk_ (fun hs_ => fun e_ => Nat.not_le.2 hs_ (by rw [e_]; exact GW298.out)) (fun hn_ => (Kd.freshB (g := gb298) (o := .cells #[.slice Ao23 t291.length co23, .slice Ao26 t294.length co26] 25 (0, 0)) (mvK_ BK298.out) k_ hn_))⟩)) (below_size (bq2_ HB.out GE287.out GE298.out))); have n4_ := Aside0.mk (blk_below (g := gb287) (o := .cells #[.slice A2_0 l2_0.length c2_0, .slice A2_1 l2_1.length c2_1] 25 (0, 0)) (mvK_ BK287.out) hb); have n5_ := Aside0.mk (blk_below (g := gb298) (o := .cells #[.slice Ao23 t291.length co23, .slice Ao26 t294.length co26] 25 (0, 0)) (mvK_ BK298.out) hb); have n6_ := Aside0.mk (below_step (bq2_ HB.out GE287.out GE298.out) hb); clear HO293; clear HO296; clear BK287; clear BK298; clear HB; have HO293 := n0_; have HO296 := n1_; have HO301 := n2_; have HO304 := n3_; have BK287 := n4_; have BK298 := n5_; have HB := n6_; clear n0_ n1_ n2_ n3_ n4_ n5_ n6_; (try clear hb); (try clear hb2); (try clear hk); (try clear hi); (try clear ho0); (try clear ho1)) | ((with_reducible refine gate_dst (N := 10) rfl ?_); refine box_event ?hg (N := 10) ?hd (cs := #[.slice none 0 0, .slice none 0 0]) (t := 25) ?hr ?_; (case hd => rfl); (case hg => rfl); (case hr => first | (go_simp; done) | (go_simp; rfl)); intro gb306 hg w29 hbox hb; have n0_ := Aside0.mk (Kd.R_below (mvR_ HO293.out) hb); have n1_ := Aside0.mk (Kd.R_below (mvR_ HO296.out) hb); have n2_ := Aside0.mk (Kd.V_below (Kd.V_elderB (mvV_ HO301.out) gb306 (Nat.le_of_eq hg.symm)) hb); have n3_ := Aside0.mk (Kd.V_below (Kd.V_elderB (mvV_ HO304.out) gb306 (Nat.le_of_eq hg.symm)) hb); have n4_ := Aside0.mk (blk_below (g := gb287) (o := .cells #[.slice A2_0 l2_0.length c2_0, .slice A2_1 l2_1.length c2_1] 25 (0, 0)) (mvK_ BK287.out) hb); have n5_ := Aside0.mk (blk_below (g := gb298) (o := .cells #[.slice Ao23 t291.length co23, .slice Ao26 t294.length co26] 25 (0, 0)) (mvK_ BK298.out) hb); have n6_ := Aside0.mk (below_step (bq2_ HB.out GE287.out GE298.out) hb); have n7_ := Aside0.mk (hbox); have n8_ := Aside0.mk ((by rw [hg]; exact (below_size (bq2_ HB.out GE287.out GE298.out)) : w.heap.size ≤ gb306)); have n9_ := Aside0.mk ((by rw [hg]; exact (below_size (bq2_ HB.out GE287.out GE298.out)) : w.heap.size ≤ gb306)); have n10_ := Aside0.mk ((by rw [hg]; exact Nat.ne_of_lt (blk_lt (g := gb287) (o := .cells #[.slice A2_0 l2_0.length c2_0, .slice A2_1 l2_1.length c2_1] 25 (0, 0)) (mvK_ BK287.out)) : gb287 ≠ gb306)); have n11_ := Aside0.mk ((by rw [hg]; exact Nat.ne_of_gt (blk_lt (g := gb287) (o := .cells #[.slice A2_0 l2_0.length c2_0, .slice A2_1 l2_1.length c2_1] 25 (0, 0)) (mvK_ BK287.out)) : gb306 ≠ gb287)); have n12_ := Aside0.mk ((by rw [hg]; exact Nat.ne_of_lt (blk_lt (g := gb298) (o := .cells #[.slice Ao23 t291.length co23, .slice Ao26 t294.length co26] 25 (0, 0)) (mvK_ BK298.out)) : gb298 ≠ gb306)); have n13_ := Aside0.mk ((by rw [hg]; exact Nat.ne_of_gt (blk_lt (g := gb298) (o := .cells #[.slice Ao23 t291.length co23, .slice Ao26 t294.length co26] 25 (0, 0)) (mvK_ BK298.out)) : gb306 ≠ gb298)); clear HO293; clear HO296; clear HO301; clear HO304; clear BK287; clear BK298; clear HB; have HO293 := n0_; have HO296 := n1_; have HO301 := n2_; have HO304 := n3_; have BK287 := n4_; have BK298 := n5_; have HB := n6_; have BK306 := n7_; have GW306 := n8_; have GE306 := n9_; have NB287_306 := n10_; have NB306_287 := n11_; have NB298_306 := n12_; have NB306_298 := n13_; clear n0_ n1_ n2_ n3_ n4_ n5_ n6_ n7_ n8_ n9_ n10_ n11_ n12_ n13_; clear hb hbox hg; obtain ⟨Ao30, co30, eo30⟩ := Kd.V_slice HO301.out; subst eo30; have hnb31 := NB306_287.out; have hnc31 := NB287_306.out; have hnb32 := NB306_298.out; have hnc32 := NB298_306.out; have hcz33_0 : w29.cell? ⟨gb306, 0, none⟩ = some (.slice none 0 0) := (blk_cell BK306.out 0).trans rfl; have hcz33_1 : w29.cell? ⟨gb306, 1, none⟩ = some (.slice none 0 0) := (blk_cell BK306.out 1).trans rfl; have hfz33_0 := blk_frozen BK306.out 0; have hfz33_1 := blk_frozen BK306.out 1; obtain ⟨Ao34, co34, eo34⟩ := Kd.V_slice HO304.out; subst eo34) | ((with_reducible refine gate_store (t := 25) (p := 10) rfl ?_); refine store_event (t := 25) (p := 10) (v := ?vo_w35) (w1 := ((w29.setCell ⟨gb306, 0, none⟩ (.slice Ao30 t299.length co30)).setCell ⟨gb306, 1, none⟩ (.slice Ao34 t302.length co34))) ?hg ?ho ?hn ?hr ?_; (case ho => rfl); (case hg => rfl); (case hn => rfl); (case hr => first | (go_simp; done) | (go_simp; rfl)); intro w35 hw; have n0_ : Aside0 (Kd.R (Kd.int .i64) 3 w35 w.heap.size (fun k_ => some k_ ≠ (.slice Ao26 t294.length co26 : Value).ownBlock) (.slice Ao23 t291.length co23) t291) := ⟨(by rw [hw]; exact (by (with_reducible repeat (first | apply Kd.R_alloc | apply Kd.R_drewN | apply Kd.R_drew)); exact Kd.R_mono (Kd.R_far (p := ⟨gb306, 1, none⟩) (Kd.R_far (p := ⟨gb306, 0, none⟩) (Kd.R_types HO293.out BK306.out (by decide)) (fun _ hk => hk.2) (.slice Ao30 t299.length co30)) (fun _ hk => hk.2) (.slice Ao34 t302.length co34)) (fun _ hk => hk.1)))⟩; have n1_ : Aside0 (Kd.R (Kd.int .i64) 3 w35 w.heap.size (fun k_ => some k_ ≠ (.slice Ao23 t291.length co23 : Value).ownBlock) (.slice Ao26 t294.length co26) t294) := ⟨(by rw [hw]; exact (by (with_reducible repeat (first | apply Kd.R_alloc | apply Kd.R_drewN | apply Kd.R_drew)); exact Kd.R_mono (Kd.R_far (p := ⟨gb306, 1, none⟩) (Kd.R_far (p := ⟨gb306, 0, none⟩) (Kd.R_types HO296.out BK306.out (by decide)) (fun _ hk => hk.2) (.slice Ao30 t299.length co30)) (fun _ hk => hk.2) (.slice Ao34 t302.length co34)) (fun _ hk => hk.1)))⟩; have n2_ : Aside0 (Kd.V (Kd.int .i64) 3 w35 w.heap.size (fun k_ => some k_ ≠ (.slice Ao23 t291.length co23 : Value).ownBlock ∧ some k_ ≠ (.slice Ao26 t294.length co26 : Value).ownBlock ∧ k_ ≠ gb287 ∧ k_ ≠ gb298 ∧ k_ ≠ gb306) (.slice Ao30 t299.length co30) t299) := ⟨(by rw [hw]; exact (by (with_reducible repeat (first | apply Kd.V_alloc | apply Kd.V_drewN | apply Kd.V_drew)); exact Kd.V_mono (Kd.V_far (p := ⟨gb306, 1, none⟩) (Kd.V_far (p := ⟨gb306, 0, none⟩) (Kd.V_mono HO301.out (fun k_ hk => (⟨hk, hk.2⟩ : _ ∧ k_ ≠ gb306))) (fun _ hk => hk.2) (.slice Ao30 t299.length co30)) (fun _ hk => hk.2) (.slice Ao34 t302.length co34)) (fun _ hk => ⟨hk.1.1.1, ⟨hk.1.1.2.1, ⟨hk.1.1.2.2.1, ⟨hk.1.1.2.2.2, hk.1.2⟩⟩⟩⟩)))⟩; have n3_ : Aside0 (Kd.V (Kd.int .i64) 3 w35 w.heap.size (fun k_ => some k_ ≠ (.slice Ao23 t291.length co23 : Value).ownBlock ∧ some k_ ≠ (.slice Ao26 t294.length co26 : Value).ownBlock ∧ k_ ≠ gb287 ∧ k_ ≠ gb298 ∧ k_ ≠ gb306) (.slice Ao34 t302.length co34) t302) := ⟨(by rw [hw]; exact (by (with_reducible repeat (first | apply Kd.V_alloc | apply Kd.V_drewN | apply Kd.V_drew)); exact Kd.V_mono (Kd.V_far (p := ⟨gb306, 1, none⟩) (Kd.V_far (p := ⟨gb306, 0, none⟩) (Kd.V_mono HO304.out (fun k_ hk => (⟨hk, hk.2⟩ : _ ∧ k_ ≠ gb306))) (fun _ hk => hk.2) (.slice Ao30 t299.length co30)) (fun _ hk => hk.2) (.slice Ao34 t302.length co34)) (fun _ hk => ⟨hk.1.1.1, ⟨hk.1.1.2.1, ⟨hk.1.1.2.2.1, ⟨hk.1.1.2.2.2, hk.1.2⟩⟩⟩⟩)))⟩; have n4_ : Aside0 (w35.heap[gb287]? = some (.cells #[.slice A2_0 l2_0.length c2_0, .slice A2_1 l2_1.length c2_1] 25 (0, 0))) := ⟨(by rw [hw]; exact (by (with_reducible repeat (first | refine blk_drewN ?_ _ | refine blk_drew ?_ | refine blk_alloc ?_ _)); refine blk_far ?_ NB287_306.out _; (with_reducible repeat (first | refine blk_drewN ?_ _ | refine blk_drew ?_ | refine blk_alloc ?_ _)); refine blk_far ?_ NB287_306.out _; (with_reducible repeat (first | refine blk_drewN ?_ _ | refine blk_drew ?_ | refine blk_alloc ?_ _)); exact BK287.out))⟩; have n5_ : Aside0 (w35.heap[gb298]? = some (.cells #[.slice Ao23 t291.length co23, .slice Ao26 t294.length co26] 25 (0, 0))) := ⟨(by rw [hw]; exact (by (with_reducible repeat (first | refine blk_drewN ?_ _ | refine blk_drew ?_ | refine blk_alloc ?_ _)); refine blk_far ?_ NB298_306.out _; (with_reducible repeat (first | refine blk_drewN ?_ _ | refine blk_drew ?_ | refine blk_alloc ?_ _)); refine blk_far ?_ NB298_306.out _; (with_reducible repeat (first | refine blk_drewN ?_ _ | refine blk_drew ?_ | refine blk_alloc ?_ _)); exact BK298.out))⟩; have n6_ : Aside0 (w35.heap[gb306]? = some (.cells #[.slice Ao30 t299.length co30, .slice Ao34 t302.length co34] 25 (0, 0))) := ⟨(by rw [hw]; exact (by (with_reducible repeat (first | refine blk_drewN ?_ _ | refine blk_drew ?_ | refine blk_alloc ?_ _)); refine blk_put (cs := #[.slice Ao30 t299.length co30, .slice none 0 0]) ?_ 1 _ rfl; (with_reducible repeat (first | refine blk_drewN ?_ _ | refine blk_drew ?_ | refine blk_alloc ?_ _)); refine blk_put (cs := #[.slice none 0 0, .slice none 0 0]) ?_ 0 _ rfl; (with_reducible repeat (first | refine blk_drewN ?_ _ | refine blk_drew ?_ | refine blk_alloc ?_ _)); exact BK306.out))⟩; have n7_ : Aside0 (Below w.heap.size w w35) := ⟨(by rw [hw]; exact (bq3_ HB.out GE287.out GE298.out GE306.out))⟩; clear hw; clear HO293; clear HO296; clear HO301; clear HO304; clear BK287; clear BK298; clear BK306; clear HB; have HO293 := n0_; have HO296 := n1_; have HO301 := n2_; have HO304 := n3_; have BK287 := n4_; have BK298 := n5_; have BK306 := n6_; have HB := n7_; clear n0_ n1_ n2_ n3_ n4_ n5_ n6_ n7_; have hcz36_0 : w35.cell? ⟨gb287, 0, none⟩ = some (.slice A2_0 l2_0.length c2_0) := (blk_cell BK287.out 0).trans rfl; have hcz36_1 : w35.cell? ⟨gb287, 1, none⟩ = some (.slice A2_1 l2_1.length c2_1) := (blk_cell BK287.out 1).trans rfl; have hfz36_0 := blk_frozen BK287.out 0; have hfz36_1 := blk_frozen BK287.out 1) | ((with_reducible refine gate_callee (f := 13) rfl ?_); refine goesL_ (some 43) rfl rfl Try.func13 (by kernel_rfl) rfl #[.slice A0 l0.length c0, .int .i64 a1, .agg #[.slice A2_0 l2_0.length c2_0, .slice A2_1 l2_1.length c2_1]] rfl (by (try simp only [List.map_toArray, List.map_cons, List.map_nil]); first | done | rfl | (simp only [List.length_drop, List.length_take]; rfl)) ?_; (with_reducible refine (chain_Put.calls kj4 (fun k_ => k_ < w.heap.size) _ _ l0 a1 _ _ l2_0 _ _ l2_1 t307 t310 _ ?side1 ?side2 ?side3 ?side4 ?side5 A18.out).mono ?_); (case side1 => exact Kd.V_mk HC0.out (Kd.F_below (Kd.C_F k41_heap HR0.out) (bq3_ HB.out GE287.out GE298.out GE306.out))); (case side2 => repeat (first | exact (Kd.C_below HR2_0.out HB.out) | (with_reducible refine Kd.C_alloc ?_ _) | (with_reducible refine Kd.C_drewN ?_ _) | (with_reducible refine Kd.C_drew ?_))); (case side3 => exact HC2_0.out); (case side4 => repeat (first | exact (Kd.C_below HR2_1.out HB.out) | (with_reducible refine Kd.C_alloc ?_ _) | (with_reducible refine Kd.C_drewN ?_ _) | (with_reducible refine Kd.C_drew ?_))); (case side5 => exact HC2_1.out); rintro e w37 ⟨v308, rfl, ho0, hb⟩; refine ⟨_, rfl, ?_⟩; have n0_ := Aside0.mk (Kd.R_below (mvR_ HO293.out) hb); have n1_ := Aside0.mk (Kd.R_below (mvR_ HO296.out) hb); have n2_ := Aside0.mk (Kd.V_below (mvV_ HO301.out) hb); have n3_ := Aside0.mk (Kd.V_below (mvV_ HO304.out) hb); have n4_ := Aside0.mk (Kd.V_lower (Kd.V_mono (ok' := fun k_ => some k_ ≠ (.slice Ao23 t291.length co23 : Value).ownBlock ∧ some k_ ≠ (.slice Ao26 t294.length co26 : Value).ownBlock ∧ k_ ≠ gb287 ∧ k_ ≠ gb298 ∧ k_ ≠ gb306) ho0 (fun k_ hk_ => ⟨Or.elim hk_ (fun hs_ => fun e_ => Nat.not_le.2 hs_ (Kd.R_base HO293.out k_ e_.symm)) (fun hn_ => (Kd.fresh' (Kd.R_lt (mvR_ HO293.out)) k_ hn_)), Or.elim hk_ (fun hs_ => fun e_ => Nat.not_le.2 hs_ (Kd.R_base HO296.out k_ e_.symm)) (fun hn_ => (Kd.fresh' (Kd.R_lt (mvR_ HO296.out)) k_ hn_)), Or.elim hk_ (fun hs_ => fun e_ => Nat.not_le.2 hs_ (by rw [e_]; exact GW287.out)) (fun hn_ => (Kd.freshB (g := gb287) (o := .cells #[.slice A2_0 l2_0.length c2_0, .slice A2_1 l2_1.length c2_1] 25 (0, 0)) (mvK_ BK287.out) k_ hn_)), Or.elim hk_ (fun hs_ => fun e_ => Nat.not_le.2 hs_ (by rw [e_]; exact GW298.out)) (fun hn_ => (Kd.freshB (g := gb298) (o := .cells #[.slice Ao23 t291.length co23, .slice Ao26 t294.length co26] 25 (0, 0)) (mvK_ BK298.out) k_ hn_)), Or.elim hk_ (fun hs_ => fun e_ => Nat.not_le.2 hs_ (by rw [e_]; exact GW306.out)) (fun hn_ => (Kd.freshB (g := gb306) (o := .cells #[.slice Ao30 t299.length co30, .slice Ao34 t302.length co34] 25 (0, 0)) (mvK_ BK306.out) k_ hn_))⟩)) (below_size (bq3_ HB.out GE287.out GE298.out GE306.out))); have n5_ := Aside0.mk (blk_below (g := gb287) (o := .cells #[.slice A2_0 l2_0.length c2_0, .slice A2_1 l2_1.length c2_1] 25 (0, 0)) (mvK_ BK287.out) hb); have n6_ := Aside0.mk (blk_below (g := gb298) (o := .cells #[.slice Ao23 t291.length co23, .slice Ao26 t294.length co26] 25 (0, 0)) (mvK_ BK298.out) hb); have n7_ := Aside0.mk (blk_below (g := gb306) (o := .cells #[.slice Ao30 t299.length co30, .slice Ao34 t302.length co34] 25 (0, 0)) (mvK_ BK306.out) hb); have n8_ := Aside0.mk (below_step (bq3_ HB.out GE287.out GE298.out GE306.out) hb); clear HO293; clear HO296; clear HO301; clear HO304; clear BK287; clear BK298; clear BK306; clear HB; have HO293 := n0_; have HO296 := n1_; have HO301 := n2_; have HO304 := n3_; have HO309 := n4_; have BK287 := n5_; have BK298 := n6_; have BK306 := n7_; have HB := n8_; clear n0_ n1_ n2_ n3_ n4_ n5_ n6_ n7_ n8_; (try clear hb); (try clear hb2); (try clear hk); (try clear hi); (try clear ho0); have hcz38_0 : w37.cell? ⟨gb287, 0, none⟩ = some (.slice A2_0 l2_0.length c2_0) := (blk_cell BK287.out 0).trans rfl; have hcz38_1 : w37.cell? ⟨gb287, 1, none⟩ = some (.slice A2_1 l2_1.length c2_1) := (blk_cell BK287.out 1).trans rfl; have hfz38_0 := blk_frozen BK287.out 0; have hfz38_1 := blk_frozen BK287.out 1) | ((with_reducible refine gate_callee (f := 14) rfl ?_); refine goesL_ (some 50) rfl rfl Try.func14 (by kernel_rfl) rfl #[.slice A0 l0.length c0, .int .i64 a1, .agg #[.slice A2_0 l2_0.length c2_0, .slice A2_1 l2_1.length c2_1]] rfl (by (try simp only [List.map_toArray, List.map_cons, List.map_nil]); first | done | rfl | (simp only [List.length_drop, List.length_take]; rfl)) ?_; (with_reducible refine (fullerref17_Put.calls kj4 (fun k_ => k_ < w.heap.size) _ _ l0 a1 (fun k_ => k_ < w.heap.size) _ _ l2_0 (fun k_ => k_ < w.heap.size) _ _ l2_1 t311 t314 _ ?side1 ?side2 ?side3 A19.out).mono ?_); (case side1 => exact Kd.V_mk HC0.out (Kd.F_below (Kd.C_F k41_heap HR0.out) (bq3_ HB.out GE287.out GE298.out GE306.out))); (case side2 => exact Kd.V_mk HC2_0.out (Kd.F_below (Kd.C_F (Kd.heap_int .i64) HR2_0.out) (bq3_ HB.out GE287.out GE298.out GE306.out))); (case side3 => exact Kd.V_mk HC2_1.out (Kd.F_below (Kd.C_F (Kd.heap_int .i64) HR2_1.out) (bq3_ HB.out GE287.out GE298.out GE306.out))); rintro e w39 ⟨v312, rfl, ho0, hb⟩; refine ⟨_, rfl, ?_⟩; have n0_ := Aside0.mk (Kd.R_below (mvR_ HO293.out) hb); have n1_ := Aside0.mk (Kd.R_below (mvR_ HO296.out) hb); have n2_ := Aside0.mk (Kd.V_below (mvV_ HO301.out) hb); have n3_ := Aside0.mk (Kd.V_below (mvV_ HO304.out) hb); have n4_ := Aside0.mk (Kd.V_below (mvV_ HO309.out) hb); have n5_ := Aside0.mk (Kd.V_lower (Kd.V_mono (ok' := fun k_ => some k_ ≠ (.slice Ao23 t291.length co23 : Value).ownBlock ∧ some k_ ≠ (.slice Ao26 t294.length co26 : Value).ownBlock ∧ k_ ≠ gb287 ∧ k_ ≠ gb298 ∧ k_ ≠ gb306) ho0 (fun k_ hk_ => ⟨Or.elim hk_ (fun hs_ => Or.elim hs_ (fun hs_ => fun e_ => Nat.not_le.2 hs_ (Kd.R_base HO293.out k_ e_.symm)) (fun hs_ => Or.elim hs_ (fun hs_ => fun e_ => Nat.not_le.2 hs_ (Kd.R_base HO293.out k_ e_.symm)) (fun hs_ => fun e_ => Nat.not_le.2 hs_ (Kd.R_base HO293.out k_ e_.symm)))) (fun hn_ => (Kd.fresh' (Kd.R_lt (mvR_ HO293.out)) k_ hn_)), Or.elim hk_ (fun hs_ => Or.elim hs_ (fun hs_ => fun e_ => Nat.not_le.2 hs_ (Kd.R_base HO296.out k_ e_.symm)) (fun hs_ => Or.elim hs_ (fun hs_ => fun e_ => Nat.not_le.2 hs_ (Kd.R_base HO296.out k_ e_.symm)) (fun hs_ => fun e_ => Nat.not_le.2 hs_ (Kd.R_base HO296.out k_ e_.symm)))) (fun hn_ => (Kd.fresh' (Kd.R_lt (mvR_ HO296.out)) k_ hn_)), Or.elim hk_ (fun hs_ => Or.elim hs_ (fun hs_ => fun e_ => Nat.not_le.2 hs_ (by rw [e_]; exact GW287.out)) (fun hs_ => Or.elim hs_ (fun hs_ => fun e_ => Nat.not_le.2 hs_ (by rw [e_]; exact GW287.out)) (fun hs_ => fun e_ => Nat.not_le.2 hs_ (by rw [e_]; exact GW287.out)))) (fun hn_ => (Kd.freshB (g := gb287) (o := .cells #[.slice A2_0 l2_0.length c2_0, .slice A2_1 l2_1.length c2_1] 25 (0, 0)) (mvK_ BK287.out) k_ hn_)), Or.elim hk_ (fun hs_ => Or.elim hs_ (fun hs_ => fun e_ => Nat.not_le.2 hs_ (by rw [e_]; exact GW298.out)) (fun hs_ => Or.elim hs_ (fun hs_ => fun e_ => Nat.not_le.2 hs_ (by rw [e_]; exact GW298.out)) (fun hs_ => fun e_ => Nat.not_le.2 hs_ (by rw [e_]; exact GW298.out)))) (fun hn_ => (Kd.freshB (g := gb298) (o := .cells #[.slice Ao23 t291.length co23, .slice Ao26 t294.length co26] 25 (0, 0)) (mvK_ BK298.out) k_ hn_)), Or.elim hk_ (fun hs_ => Or.elim hs_ (fun hs_ => fun e_ => Nat.not_le.2 hs_ (by rw [e_]; exact GW306.out)) (fun hs_ => Or.elim hs_ (fun hs_ => fun e_ => Nat.not_le.2 hs_ (by rw [e_]; exact GW306.out)) (fun hs_ => fun e_ => Nat.not_le.2 hs_ (by rw [e_]; exact GW306.out)))) (fun hn_ => (Kd.freshB (g := gb306) (o := .cells #[.slice Ao30 t299.length co30, .slice Ao34 t302.length co34] 25 (0, 0)) (mvK_ BK306.out) k_ hn_))⟩)) (below_size (bq3_ HB.out GE287.out GE298.out GE306.out))); have n6_ := Aside0.mk (blk_below (g := gb287) (o := .cells #[.slice A2_0 l2_0.length c2_0, .slice A2_1 l2_1.length c2_1] 25 (0, 0)) (mvK_ BK287.out) hb); have n7_ := Aside0.mk (blk_below (g := gb298) (o := .cells #[.slice Ao23 t291.length co23, .slice Ao26 t294.length co26] 25 (0, 0)) (mvK_ BK298.out) hb); have n8_ := Aside0.mk (blk_below (g := gb306) (o := .cells #[.slice Ao30 t299.length co30, .slice Ao34 t302.length co34] 25 (0, 0)) (mvK_ BK306.out) hb); have n9_ := Aside0.mk (below_step (bq3_ HB.out GE287.out GE298.out GE306.out) hb); clear HO293; clear HO296; clear HO301; clear HO304; clear HO309; clear BK287; clear BK298; clear BK306; clear HB; have HO293 := n0_; have HO296 := n1_; have HO301 := n2_; have HO304 := n3_; have HO309 := n4_; have HO313 := n5_; have BK287 := n6_; have BK298 := n7_; have BK306 := n8_; have HB := n9_; clear n0_ n1_ n2_ n3_ n4_ n5_ n6_ n7_ n8_ n9_; (try clear hb); (try clear hb2); (try clear hk); (try clear hi); (try clear ho0)))
    (try simp only [Act.put, sA_, sB_, sC_])
    go_cut [16] (fun v16 wc => ∃ (kq : Nat) (x16_19 : Bool), v16 = .bool x16_19 ∧ Aside0 (fullerlaw17_ChainTells.j1 kq l0 a1 t288 x16_19 = some r) ∧ Aside0 (kq ≤ kj4) ∧ Aside0 (Kd.R (Kd.int .i64) 3 wc w.heap.size (fun k_ => some k_ ≠ ((.slice Ao26 t294.length co26) : Value).ownBlock) (.slice Ao23 t291.length co23) t291) ∧ Aside0 (Kd.R (Kd.int .i64) 3 wc w.heap.size (fun k_ => some k_ ≠ ((.slice Ao23 t291.length co23) : Value).ownBlock) (.slice Ao26 t294.length co26) t294) ∧ Aside0 (Kd.V (Kd.int .i64) 3 wc w.heap.size (fun k_ => some k_ ≠ ((.slice Ao23 t291.length co23) : Value).ownBlock ∧ some k_ ≠ ((.slice Ao26 t294.length co26) : Value).ownBlock ∧ k_ ≠ gb287 ∧ k_ ≠ gb298 ∧ k_ ≠ gb306) (.slice Ao30 t299.length co30) t299) ∧ Aside0 (Kd.V (Kd.int .i64) 3 wc w.heap.size (fun k_ => some k_ ≠ ((.slice Ao23 t291.length co23) : Value).ownBlock ∧ some k_ ≠ ((.slice Ao26 t294.length co26) : Value).ownBlock ∧ k_ ≠ gb287 ∧ k_ ≠ gb298 ∧ k_ ≠ gb306) (.slice Ao34 t302.length co34) t302) ∧ Aside0 (wc.heap[gb287]? = some (.cells #[(.slice A2_0 l2_0.length c2_0), (.slice A2_1 l2_1.length c2_1)] 25 (0, 0))) ∧ Aside0 (wc.heap[gb298]? = some (.cells #[(.slice Ao23 t291.length co23), (.slice Ao26 t294.length co26)] 25 (0, 0))) ∧ Aside0 (wc.heap[gb306]? = some (.cells #[(.slice Ao30 t299.length co30), (.slice Ao34 t302.length co34)] 25 (0, 0))) ∧ Aside0 (Below w.heap.size w wc))
    case first =>
     have H := HC20.out
     clear HC20
     replace H := Option.bind_eq_some_iff.mp H
     obtain ⟨t315, A400, H⟩ := H
     replace H : (if t315 = true then (if (t297 == t305) = true then ((fullerref17_Same.f kj4 t307 t311).bind fun t316 => (if t316 = true then (fullerlaw17_ChainTells.j1 kj4 l0 a1 t288 (t310 == t314)) else (fullerlaw17_ChainTells.j1 kj4 l0 a1 t288 false))) else (fullerlaw17_ChainTells.j1 kj4 l0 a1 t288 false)) else (fullerlaw17_ChainTells.j1 kj4 l0 a1 t288 false)) = some r := H
     have A40 := Aside0.mk A400
     clear A400
     by_cases c41 : t315 = true
     ·subst c41
      have H1 : (if (t297 == t305) = true then ((fullerref17_Same.f kj4 t307 t311).bind fun t316 => (if t316 = true then (fullerlaw17_ChainTells.j1 kj4 l0 a1 t288 (t310 == t314)) else (fullerlaw17_ChainTells.j1 kj4 l0 a1 t288 false))) else (fullerlaw17_ChainTells.j1 kj4 l0 a1 t288 false)) = some r := by rw [if_pos rfl] at H; exact H
      clear H
      have H := H1
      clear H1
      by_cases c42 : (t297 == t305) = true
      ·rw [if_pos c42] at H
       have c42b0 : (t297 == t305) = true := c42
       (try (have c42b1 : decide (t297 = t305) = true := by simpa using c42))
       (try (have c42b2 : (t297 == t305) = true := by simpa using c42))
       clear c42
       (first | rw [c42b0] | (simp only [i64_w, i32_w]; rw [c42b0]) | skip)
       replace H := Option.bind_eq_some_iff.mp H
       obtain ⟨t316, A430, H⟩ := H
       replace H : (if t316 = true then (fullerlaw17_ChainTells.j1 kj4 l0 a1 t288 (t310 == t314)) else (fullerlaw17_ChainTells.j1 kj4 l0 a1 t288 false)) = some r := H
       have A43 := Aside0.mk A430
       clear A430
       by_cases c44 : t316 = true
       ·subst c44
        have H1 : (fullerlaw17_ChainTells.j1 kj4 l0 a1 t288 (t310 == t314)) = some r := by rw [if_pos rfl] at H; exact H
        clear H
        have H := H1
        clear H1
        have H' := Aside0.mk H
        clear H
        have hnb45 := NB298_287.out
        have hnc45 := NB287_298.out
        have hnb46 := NB298_306.out
        have hnc46 := NB306_298.out
        have hcz47_0 : w39.cell? ⟨gb298, 0, none⟩ = some (.slice Ao23 t291.length co23) := (blk_cell BK298.out 0).trans rfl
        have hcz47_1 : w39.cell? ⟨gb298, 1, none⟩ = some (.slice Ao26 t294.length co26) := (blk_cell BK298.out 1).trans rfl
        have hfz47_0 := blk_frozen BK298.out 0
        have hfz47_1 := blk_frozen BK298.out 1
        have hnb48 := NB306_287.out
        have hnc48 := NB287_306.out
        have hcz49_0 : w39.cell? ⟨gb306, 0, none⟩ = some (.slice Ao30 t299.length co30) := (blk_cell BK306.out 0).trans rfl
        have hcz49_1 : w39.cell? ⟨gb306, 1, none⟩ = some (.slice Ao34 t302.length co34) := (blk_cell BK306.out 1).trans rfl
        have hfz49_0 := blk_frozen BK306.out 0
        have hfz49_1 := blk_frozen BK306.out 1
        go_wp2_with (first | ((with_reducible refine gate_callee (f := 15) rfl ?_); refine goesL_ (some 55) rfl rfl Try.func15 (by kernel_rfl) rfl #[.agg #[.slice Ao23 t291.length co23, .slice Ao26 t294.length co26], .agg #[.slice Ao30 t299.length co30, .slice Ao34 t302.length co34]] rfl (by (try simp only [List.map_toArray, List.map_cons, List.map_nil]); first | done | rfl | (simp only [List.length_drop, List.length_take]; rfl)) ?_; (with_reducible refine (fullerref03_Same.calls kj4 _ _ t291 _ _ t294 _ _ t299 _ _ t302 true _ ?side1 ?side2 ?side3 ?side4 ?side5 ?side6 ?side7 ?side8 A40.out).mono ?_); (case side1 => repeat (first | exact (Kd.R_reads' HO293.out).2.2 | (with_reducible refine Kd.C_alloc ?_ _) | (with_reducible refine Kd.C_drewN ?_ _) | (with_reducible refine Kd.C_drew ?_))); (case side2 => exact (Kd.R_reads' HO293.out).2.1); (case side3 => repeat (first | exact (Kd.R_reads' HO296.out).2.2 | (with_reducible refine Kd.C_alloc ?_ _) | (with_reducible refine Kd.C_drewN ?_ _) | (with_reducible refine Kd.C_drew ?_))); (case side4 => exact (Kd.R_reads' HO296.out).2.1); (case side5 => repeat (first | exact (Kd.V_reads' HO301.out).2.2 | (with_reducible refine Kd.C_alloc ?_ _) | (with_reducible refine Kd.C_drewN ?_ _) | (with_reducible refine Kd.C_drew ?_))); (case side6 => exact (Kd.V_reads' HO301.out).2.1); (case side7 => repeat (first | exact (Kd.V_reads' HO304.out).2.2 | (with_reducible refine Kd.C_alloc ?_ _) | (with_reducible refine Kd.C_drewN ?_ _) | (with_reducible refine Kd.C_drew ?_))); (case side8 => exact (Kd.V_reads' HO304.out).2.1); rintro e w50 ⟨rfl, hb⟩; refine ⟨_, rfl, ?_⟩; have n0_ := Aside0.mk (Kd.R_below (mvR_ HO293.out) hb); have n1_ := Aside0.mk (Kd.R_below (mvR_ HO296.out) hb); have n2_ := Aside0.mk (Kd.V_below (mvV_ HO301.out) hb); have n3_ := Aside0.mk (Kd.V_below (mvV_ HO304.out) hb); have n4_ := Aside0.mk (Kd.V_below (mvV_ HO309.out) hb); have n5_ := Aside0.mk (Kd.V_below (mvV_ HO313.out) hb); have n6_ := Aside0.mk (blk_below (g := gb287) (o := .cells #[.slice A2_0 l2_0.length c2_0, .slice A2_1 l2_1.length c2_1] 25 (0, 0)) (mvK_ BK287.out) hb); have n7_ := Aside0.mk (blk_below (g := gb298) (o := .cells #[.slice Ao23 t291.length co23, .slice Ao26 t294.length co26] 25 (0, 0)) (mvK_ BK298.out) hb); have n8_ := Aside0.mk (blk_below (g := gb306) (o := .cells #[.slice Ao30 t299.length co30, .slice Ao34 t302.length co34] 25 (0, 0)) (mvK_ BK306.out) hb); have n9_ := Aside0.mk (below_step (bq3_ HB.out GE287.out GE298.out GE306.out) hb); clear HO293; clear HO296; clear HO301; clear HO304; clear HO309; clear HO313; clear BK287; clear BK298; clear BK306; clear HB; have HO293 := n0_; have HO296 := n1_; have HO301 := n2_; have HO304 := n3_; have HO309 := n4_; have HO313 := n5_; have BK287 := n6_; have BK298 := n7_; have BK306 := n8_; have HB := n9_; clear n0_ n1_ n2_ n3_ n4_ n5_ n6_ n7_ n8_ n9_; (try clear hb); (try clear hb2); (try clear hk); (try clear hi); obtain ⟨Ao51, co51, eo51⟩ := Kd.V_slice HO309.out; subst eo51; obtain ⟨Ao52, co52, eo52⟩ := Kd.V_slice HO313.out; subst eo52) | (go_at_call 16; (with_reducible refine (fullerref17_Same.calls kj4 _ _ t307 _ _ t311 true _ ?side1 ?side2 ?side3 ?side4 A43.out).mono ?_); (case side1 => repeat (first | exact (Kd.V_reads' HO309.out).2.2 | (with_reducible refine Kd.C_alloc ?_ _) | (with_reducible refine Kd.C_drewN ?_ _) | (with_reducible refine Kd.C_drew ?_))); (case side2 => exact (Kd.V_reads' HO309.out).2.1); (case side3 => repeat (first | exact (Kd.V_reads' HO313.out).2.2 | (with_reducible refine Kd.C_alloc ?_ _) | (with_reducible refine Kd.C_drewN ?_ _) | (with_reducible refine Kd.C_drew ?_))); (case side4 => exact (Kd.V_reads' HO313.out).2.1); rintro e w53 ⟨rfl, hb⟩; have n0_ := Aside0.mk (Kd.R_below (mvR_ HO293.out) hb); have n1_ := Aside0.mk (Kd.R_below (mvR_ HO296.out) hb); have n2_ := Aside0.mk (Kd.V_below (mvV_ HO301.out) hb); have n3_ := Aside0.mk (Kd.V_below (mvV_ HO304.out) hb); have n4_ := Aside0.mk (Kd.V_below (mvV_ HO309.out) hb); have n5_ := Aside0.mk (Kd.V_below (mvV_ HO313.out) hb); have n6_ := Aside0.mk (blk_below (g := gb287) (o := .cells #[.slice A2_0 l2_0.length c2_0, .slice A2_1 l2_1.length c2_1] 25 (0, 0)) (mvK_ BK287.out) hb); have n7_ := Aside0.mk (blk_below (g := gb298) (o := .cells #[.slice Ao23 t291.length co23, .slice Ao26 t294.length co26] 25 (0, 0)) (mvK_ BK298.out) hb); have n8_ := Aside0.mk (blk_below (g := gb306) (o := .cells #[.slice Ao30 t299.length co30, .slice Ao34 t302.length co34] 25 (0, 0)) (mvK_ BK306.out) hb); have n9_ := Aside0.mk (below_step (bq3_ HB.out GE287.out GE298.out GE306.out) hb); clear HO293; clear HO296; clear HO301; clear HO304; clear HO309; clear HO313; clear BK287; clear BK298; clear BK306; clear HB; have HO293 := n0_; have HO296 := n1_; have HO301 := n2_; have HO304 := n3_; have HO309 := n4_; have HO313 := n5_; have BK287 := n6_; have BK298 := n7_; have BK306 := n8_; have HB := n9_; clear n0_ n1_ n2_ n3_ n4_ n5_ n6_ n7_ n8_ n9_; (try clear hb); (try clear hb2); (try clear hk); (try clear hi)))
        go_meet
        case rel => exact ⟨_, ((t310 == t314)), (by first | rfl | (simp; done) | (simp [*]; done)), H', ⟨by have := HJ4.out; first | omega | exact Nat.le_refl _⟩, ⟨by (with_reducible repeat (first | apply Kd.R_alloc | apply Kd.R_drewN | apply Kd.R_drew)); exact HO293.out⟩, ⟨by (with_reducible repeat (first | apply Kd.R_alloc | apply Kd.R_drewN | apply Kd.R_drew)); exact HO296.out⟩, ⟨by (with_reducible repeat (first | apply Kd.V_alloc | apply Kd.V_drewN | apply Kd.V_drew)); exact HO301.out⟩, ⟨by (with_reducible repeat (first | apply Kd.V_alloc | apply Kd.V_drewN | apply Kd.V_drew)); exact HO304.out⟩, ⟨by (with_reducible repeat (first | refine blk_drewN ?_ _ | refine blk_drew ?_ | refine blk_alloc ?_ _)); exact BK287.out⟩, ⟨by (with_reducible repeat (first | refine blk_drewN ?_ _ | refine blk_drew ?_ | refine blk_alloc ?_ _)); exact BK298.out⟩, ⟨by (with_reducible repeat (first | refine blk_drewN ?_ _ | refine blk_drew ?_ | refine blk_alloc ?_ _)); exact BK306.out⟩, ⟨by repeat (first | (with_reducible first | exact HB.out | apply below_alloc | apply pw_below_drewN | apply below_drew1 | refine below_set ?_ GE287.out | refine below_set ?_ GE298.out | refine below_set ?_ GE306.out) | exact HB.out)⟩⟩
       ·replace c44 := Bool.eq_false_iff.mpr c44
        subst c44
        have H1 : (fullerlaw17_ChainTells.j1 kj4 l0 a1 t288 false) = some r := by rw [if_neg (show ¬ (false = true) by decide)] at H; exact H
        clear H
        have H := H1
        clear H1
        have H' := Aside0.mk H
        clear H
        have hnb54 := NB298_287.out
        have hnc54 := NB287_298.out
        have hnb55 := NB298_306.out
        have hnc55 := NB306_298.out
        have hcz56_0 : w39.cell? ⟨gb298, 0, none⟩ = some (.slice Ao23 t291.length co23) := (blk_cell BK298.out 0).trans rfl
        have hcz56_1 : w39.cell? ⟨gb298, 1, none⟩ = some (.slice Ao26 t294.length co26) := (blk_cell BK298.out 1).trans rfl
        have hfz56_0 := blk_frozen BK298.out 0
        have hfz56_1 := blk_frozen BK298.out 1
        have hnb57 := NB306_287.out
        have hnc57 := NB287_306.out
        have hcz58_0 : w39.cell? ⟨gb306, 0, none⟩ = some (.slice Ao30 t299.length co30) := (blk_cell BK306.out 0).trans rfl
        have hcz58_1 : w39.cell? ⟨gb306, 1, none⟩ = some (.slice Ao34 t302.length co34) := (blk_cell BK306.out 1).trans rfl
        have hfz58_0 := blk_frozen BK306.out 0
        have hfz58_1 := blk_frozen BK306.out 1
        go_wp2_with (first | ((with_reducible refine gate_callee (f := 15) rfl ?_); refine goesL_ (some 55) rfl rfl Try.func15 (by kernel_rfl) rfl #[.agg #[.slice Ao23 t291.length co23, .slice Ao26 t294.length co26], .agg #[.slice Ao30 t299.length co30, .slice Ao34 t302.length co34]] rfl (by (try simp only [List.map_toArray, List.map_cons, List.map_nil]); first | done | rfl | (simp only [List.length_drop, List.length_take]; rfl)) ?_; (with_reducible refine (fullerref03_Same.calls kj4 _ _ t291 _ _ t294 _ _ t299 _ _ t302 true _ ?side1 ?side2 ?side3 ?side4 ?side5 ?side6 ?side7 ?side8 A40.out).mono ?_); (case side1 => repeat (first | exact (Kd.R_reads' HO293.out).2.2 | (with_reducible refine Kd.C_alloc ?_ _) | (with_reducible refine Kd.C_drewN ?_ _) | (with_reducible refine Kd.C_drew ?_))); (case side2 => exact (Kd.R_reads' HO293.out).2.1); (case side3 => repeat (first | exact (Kd.R_reads' HO296.out).2.2 | (with_reducible refine Kd.C_alloc ?_ _) | (with_reducible refine Kd.C_drewN ?_ _) | (with_reducible refine Kd.C_drew ?_))); (case side4 => exact (Kd.R_reads' HO296.out).2.1); (case side5 => repeat (first | exact (Kd.V_reads' HO301.out).2.2 | (with_reducible refine Kd.C_alloc ?_ _) | (with_reducible refine Kd.C_drewN ?_ _) | (with_reducible refine Kd.C_drew ?_))); (case side6 => exact (Kd.V_reads' HO301.out).2.1); (case side7 => repeat (first | exact (Kd.V_reads' HO304.out).2.2 | (with_reducible refine Kd.C_alloc ?_ _) | (with_reducible refine Kd.C_drewN ?_ _) | (with_reducible refine Kd.C_drew ?_))); (case side8 => exact (Kd.V_reads' HO304.out).2.1); rintro e w59 ⟨rfl, hb⟩; refine ⟨_, rfl, ?_⟩; have n0_ := Aside0.mk (Kd.R_below (mvR_ HO293.out) hb); have n1_ := Aside0.mk (Kd.R_below (mvR_ HO296.out) hb); have n2_ := Aside0.mk (Kd.V_below (mvV_ HO301.out) hb); have n3_ := Aside0.mk (Kd.V_below (mvV_ HO304.out) hb); have n4_ := Aside0.mk (Kd.V_below (mvV_ HO309.out) hb); have n5_ := Aside0.mk (Kd.V_below (mvV_ HO313.out) hb); have n6_ := Aside0.mk (blk_below (g := gb287) (o := .cells #[.slice A2_0 l2_0.length c2_0, .slice A2_1 l2_1.length c2_1] 25 (0, 0)) (mvK_ BK287.out) hb); have n7_ := Aside0.mk (blk_below (g := gb298) (o := .cells #[.slice Ao23 t291.length co23, .slice Ao26 t294.length co26] 25 (0, 0)) (mvK_ BK298.out) hb); have n8_ := Aside0.mk (blk_below (g := gb306) (o := .cells #[.slice Ao30 t299.length co30, .slice Ao34 t302.length co34] 25 (0, 0)) (mvK_ BK306.out) hb); have n9_ := Aside0.mk (below_step (bq3_ HB.out GE287.out GE298.out GE306.out) hb); clear HO293; clear HO296; clear HO301; clear HO304; clear HO309; clear HO313; clear BK287; clear BK298; clear BK306; clear HB; have HO293 := n0_; have HO296 := n1_; have HO301 := n2_; have HO304 := n3_; have HO309 := n4_; have HO313 := n5_; have BK287 := n6_; have BK298 := n7_; have BK306 := n8_; have HB := n9_; clear n0_ n1_ n2_ n3_ n4_ n5_ n6_ n7_ n8_ n9_; (try clear hb); (try clear hb2); (try clear hk); (try clear hi); obtain ⟨Ao60, co60, eo60⟩ := Kd.V_slice HO309.out; subst eo60; obtain ⟨Ao61, co61, eo61⟩ := Kd.V_slice HO313.out; subst eo61) | (go_at_call 16; (with_reducible refine (fullerref17_Same.calls kj4 _ _ t307 _ _ t311 false _ ?side1 ?side2 ?side3 ?side4 A43.out).mono ?_); (case side1 => repeat (first | exact (Kd.V_reads' HO309.out).2.2 | (with_reducible refine Kd.C_alloc ?_ _) | (with_reducible refine Kd.C_drewN ?_ _) | (with_reducible refine Kd.C_drew ?_))); (case side2 => exact (Kd.V_reads' HO309.out).2.1); (case side3 => repeat (first | exact (Kd.V_reads' HO313.out).2.2 | (with_reducible refine Kd.C_alloc ?_ _) | (with_reducible refine Kd.C_drewN ?_ _) | (with_reducible refine Kd.C_drew ?_))); (case side4 => exact (Kd.V_reads' HO313.out).2.1); rintro e w62 ⟨rfl, hb⟩; have n0_ := Aside0.mk (Kd.R_below (mvR_ HO293.out) hb); have n1_ := Aside0.mk (Kd.R_below (mvR_ HO296.out) hb); have n2_ := Aside0.mk (Kd.V_below (mvV_ HO301.out) hb); have n3_ := Aside0.mk (Kd.V_below (mvV_ HO304.out) hb); have n4_ := Aside0.mk (Kd.V_below (mvV_ HO309.out) hb); have n5_ := Aside0.mk (Kd.V_below (mvV_ HO313.out) hb); have n6_ := Aside0.mk (blk_below (g := gb287) (o := .cells #[.slice A2_0 l2_0.length c2_0, .slice A2_1 l2_1.length c2_1] 25 (0, 0)) (mvK_ BK287.out) hb); have n7_ := Aside0.mk (blk_below (g := gb298) (o := .cells #[.slice Ao23 t291.length co23, .slice Ao26 t294.length co26] 25 (0, 0)) (mvK_ BK298.out) hb); have n8_ := Aside0.mk (blk_below (g := gb306) (o := .cells #[.slice Ao30 t299.length co30, .slice Ao34 t302.length co34] 25 (0, 0)) (mvK_ BK306.out) hb); have n9_ := Aside0.mk (below_step (bq3_ HB.out GE287.out GE298.out GE306.out) hb); clear HO293; clear HO296; clear HO301; clear HO304; clear HO309; clear HO313; clear BK287; clear BK298; clear BK306; clear HB; have HO293 := n0_; have HO296 := n1_; have HO301 := n2_; have HO304 := n3_; have HO309 := n4_; have HO313 := n5_; have BK287 := n6_; have BK298 := n7_; have BK306 := n8_; have HB := n9_; clear n0_ n1_ n2_ n3_ n4_ n5_ n6_ n7_ n8_ n9_; (try clear hb); (try clear hb2); (try clear hk); (try clear hi)))
        go_meet
        case rel => exact ⟨_, (false), (by first | rfl | (simp; done) | (simp [*]; done)), H', ⟨by have := HJ4.out; first | omega | exact Nat.le_refl _⟩, ⟨by (with_reducible repeat (first | apply Kd.R_alloc | apply Kd.R_drewN | apply Kd.R_drew)); exact HO293.out⟩, ⟨by (with_reducible repeat (first | apply Kd.R_alloc | apply Kd.R_drewN | apply Kd.R_drew)); exact HO296.out⟩, ⟨by (with_reducible repeat (first | apply Kd.V_alloc | apply Kd.V_drewN | apply Kd.V_drew)); exact HO301.out⟩, ⟨by (with_reducible repeat (first | apply Kd.V_alloc | apply Kd.V_drewN | apply Kd.V_drew)); exact HO304.out⟩, ⟨by (with_reducible repeat (first | refine blk_drewN ?_ _ | refine blk_drew ?_ | refine blk_alloc ?_ _)); exact BK287.out⟩, ⟨by (with_reducible repeat (first | refine blk_drewN ?_ _ | refine blk_drew ?_ | refine blk_alloc ?_ _)); exact BK298.out⟩, ⟨by (with_reducible repeat (first | refine blk_drewN ?_ _ | refine blk_drew ?_ | refine blk_alloc ?_ _)); exact BK306.out⟩, ⟨by repeat (first | (with_reducible first | exact HB.out | apply below_alloc | apply pw_below_drewN | apply below_drew1 | refine below_set ?_ GE287.out | refine below_set ?_ GE298.out | refine below_set ?_ GE306.out) | exact HB.out)⟩⟩
      ·rw [if_neg c42] at H
       have c42b0 : (t297 == t305) = false := by simpa using c42
       (try (have c42b1 : decide (t297 = t305) = false := by simpa using c42))
       (try (have c42b2 : (t297 == t305) = false := by simpa using c42))
       (try (have c42b3 : ¬ (t297 = t305) := by simpa using c42))
       clear c42
       (first | rw [c42b0] | (simp only [i64_w, i32_w]; rw [c42b0]) | skip)
       have H' := Aside0.mk H
       clear H
       have hnb63 := NB298_287.out
       have hnc63 := NB287_298.out
       have hnb64 := NB298_306.out
       have hnc64 := NB306_298.out
       have hcz65_0 : w39.cell? ⟨gb298, 0, none⟩ = some (.slice Ao23 t291.length co23) := (blk_cell BK298.out 0).trans rfl
       have hcz65_1 : w39.cell? ⟨gb298, 1, none⟩ = some (.slice Ao26 t294.length co26) := (blk_cell BK298.out 1).trans rfl
       have hfz65_0 := blk_frozen BK298.out 0
       have hfz65_1 := blk_frozen BK298.out 1
       have hnb66 := NB306_287.out
       have hnc66 := NB287_306.out
       have hcz67_0 : w39.cell? ⟨gb306, 0, none⟩ = some (.slice Ao30 t299.length co30) := (blk_cell BK306.out 0).trans rfl
       have hcz67_1 : w39.cell? ⟨gb306, 1, none⟩ = some (.slice Ao34 t302.length co34) := (blk_cell BK306.out 1).trans rfl
       have hfz67_0 := blk_frozen BK306.out 0
       have hfz67_1 := blk_frozen BK306.out 1
       go_wp2_with (first | ((with_reducible refine gate_callee (f := 15) rfl ?_); refine goesL_ (some 55) rfl rfl Try.func15 (by kernel_rfl) rfl #[.agg #[.slice Ao23 t291.length co23, .slice Ao26 t294.length co26], .agg #[.slice Ao30 t299.length co30, .slice Ao34 t302.length co34]] rfl (by (try simp only [List.map_toArray, List.map_cons, List.map_nil]); first | done | rfl | (simp only [List.length_drop, List.length_take]; rfl)) ?_; (with_reducible refine (fullerref03_Same.calls kj4 _ _ t291 _ _ t294 _ _ t299 _ _ t302 true _ ?side1 ?side2 ?side3 ?side4 ?side5 ?side6 ?side7 ?side8 A40.out).mono ?_); (case side1 => repeat (first | exact (Kd.R_reads' HO293.out).2.2 | (with_reducible refine Kd.C_alloc ?_ _) | (with_reducible refine Kd.C_drewN ?_ _) | (with_reducible refine Kd.C_drew ?_))); (case side2 => exact (Kd.R_reads' HO293.out).2.1); (case side3 => repeat (first | exact (Kd.R_reads' HO296.out).2.2 | (with_reducible refine Kd.C_alloc ?_ _) | (with_reducible refine Kd.C_drewN ?_ _) | (with_reducible refine Kd.C_drew ?_))); (case side4 => exact (Kd.R_reads' HO296.out).2.1); (case side5 => repeat (first | exact (Kd.V_reads' HO301.out).2.2 | (with_reducible refine Kd.C_alloc ?_ _) | (with_reducible refine Kd.C_drewN ?_ _) | (with_reducible refine Kd.C_drew ?_))); (case side6 => exact (Kd.V_reads' HO301.out).2.1); (case side7 => repeat (first | exact (Kd.V_reads' HO304.out).2.2 | (with_reducible refine Kd.C_alloc ?_ _) | (with_reducible refine Kd.C_drewN ?_ _) | (with_reducible refine Kd.C_drew ?_))); (case side8 => exact (Kd.V_reads' HO304.out).2.1); rintro e w68 ⟨rfl, hb⟩; refine ⟨_, rfl, ?_⟩; have n0_ := Aside0.mk (Kd.R_below (mvR_ HO293.out) hb); have n1_ := Aside0.mk (Kd.R_below (mvR_ HO296.out) hb); have n2_ := Aside0.mk (Kd.V_below (mvV_ HO301.out) hb); have n3_ := Aside0.mk (Kd.V_below (mvV_ HO304.out) hb); have n4_ := Aside0.mk (Kd.V_below (mvV_ HO309.out) hb); have n5_ := Aside0.mk (Kd.V_below (mvV_ HO313.out) hb); have n6_ := Aside0.mk (blk_below (g := gb287) (o := .cells #[.slice A2_0 l2_0.length c2_0, .slice A2_1 l2_1.length c2_1] 25 (0, 0)) (mvK_ BK287.out) hb); have n7_ := Aside0.mk (blk_below (g := gb298) (o := .cells #[.slice Ao23 t291.length co23, .slice Ao26 t294.length co26] 25 (0, 0)) (mvK_ BK298.out) hb); have n8_ := Aside0.mk (blk_below (g := gb306) (o := .cells #[.slice Ao30 t299.length co30, .slice Ao34 t302.length co34] 25 (0, 0)) (mvK_ BK306.out) hb); have n9_ := Aside0.mk (below_step (bq3_ HB.out GE287.out GE298.out GE306.out) hb); clear HO293; clear HO296; clear HO301; clear HO304; clear HO309; clear HO313; clear BK287; clear BK298; clear BK306; clear HB; have HO293 := n0_; have HO296 := n1_; have HO301 := n2_; have HO304 := n3_; have HO309 := n4_; have HO313 := n5_; have BK287 := n6_; have BK298 := n7_; have BK306 := n8_; have HB := n9_; clear n0_ n1_ n2_ n3_ n4_ n5_ n6_ n7_ n8_ n9_; (try clear hb); (try clear hb2); (try clear hk); (try clear hi)))
       go_meet
       case rel => exact ⟨_, (false), (by first | rfl | (simp; done) | (simp [*]; done)), H', ⟨by have := HJ4.out; first | omega | exact Nat.le_refl _⟩, ⟨by (with_reducible repeat (first | apply Kd.R_alloc | apply Kd.R_drewN | apply Kd.R_drew)); exact HO293.out⟩, ⟨by (with_reducible repeat (first | apply Kd.R_alloc | apply Kd.R_drewN | apply Kd.R_drew)); exact HO296.out⟩, ⟨by (with_reducible repeat (first | apply Kd.V_alloc | apply Kd.V_drewN | apply Kd.V_drew)); exact HO301.out⟩, ⟨by (with_reducible repeat (first | apply Kd.V_alloc | apply Kd.V_drewN | apply Kd.V_drew)); exact HO304.out⟩, ⟨by (with_reducible repeat (first | refine blk_drewN ?_ _ | refine blk_drew ?_ | refine blk_alloc ?_ _)); exact BK287.out⟩, ⟨by (with_reducible repeat (first | refine blk_drewN ?_ _ | refine blk_drew ?_ | refine blk_alloc ?_ _)); exact BK298.out⟩, ⟨by (with_reducible repeat (first | refine blk_drewN ?_ _ | refine blk_drew ?_ | refine blk_alloc ?_ _)); exact BK306.out⟩, ⟨by repeat (first | (with_reducible first | exact HB.out | apply below_alloc | apply pw_below_drewN | apply below_drew1 | refine below_set ?_ GE287.out | refine below_set ?_ GE298.out | refine below_set ?_ GE306.out) | exact HB.out)⟩⟩
     ·replace c41 := Bool.eq_false_iff.mpr c41
      subst c41
      have H1 : (fullerlaw17_ChainTells.j1 kj4 l0 a1 t288 false) = some r := by rw [if_neg (show ¬ (false = true) by decide)] at H; exact H
      clear H
      have H := H1
      clear H1
      have H' := Aside0.mk H
      clear H
      have hnb69 := NB298_287.out
      have hnc69 := NB287_298.out
      have hnb70 := NB298_306.out
      have hnc70 := NB306_298.out
      have hcz71_0 : w39.cell? ⟨gb298, 0, none⟩ = some (.slice Ao23 t291.length co23) := (blk_cell BK298.out 0).trans rfl
      have hcz71_1 : w39.cell? ⟨gb298, 1, none⟩ = some (.slice Ao26 t294.length co26) := (blk_cell BK298.out 1).trans rfl
      have hfz71_0 := blk_frozen BK298.out 0
      have hfz71_1 := blk_frozen BK298.out 1
      have hnb72 := NB306_287.out
      have hnc72 := NB287_306.out
      have hcz73_0 : w39.cell? ⟨gb306, 0, none⟩ = some (.slice Ao30 t299.length co30) := (blk_cell BK306.out 0).trans rfl
      have hcz73_1 : w39.cell? ⟨gb306, 1, none⟩ = some (.slice Ao34 t302.length co34) := (blk_cell BK306.out 1).trans rfl
      have hfz73_0 := blk_frozen BK306.out 0
      have hfz73_1 := blk_frozen BK306.out 1
      go_wp2_with (first | ((with_reducible refine gate_callee (f := 15) rfl ?_); refine goesL_ (some 55) rfl rfl Try.func15 (by kernel_rfl) rfl #[.agg #[.slice Ao23 t291.length co23, .slice Ao26 t294.length co26], .agg #[.slice Ao30 t299.length co30, .slice Ao34 t302.length co34]] rfl (by (try simp only [List.map_toArray, List.map_cons, List.map_nil]); first | done | rfl | (simp only [List.length_drop, List.length_take]; rfl)) ?_; (with_reducible refine (fullerref03_Same.calls kj4 _ _ t291 _ _ t294 _ _ t299 _ _ t302 false _ ?side1 ?side2 ?side3 ?side4 ?side5 ?side6 ?side7 ?side8 A40.out).mono ?_); (case side1 => repeat (first | exact (Kd.R_reads' HO293.out).2.2 | (with_reducible refine Kd.C_alloc ?_ _) | (with_reducible refine Kd.C_drewN ?_ _) | (with_reducible refine Kd.C_drew ?_))); (case side2 => exact (Kd.R_reads' HO293.out).2.1); (case side3 => repeat (first | exact (Kd.R_reads' HO296.out).2.2 | (with_reducible refine Kd.C_alloc ?_ _) | (with_reducible refine Kd.C_drewN ?_ _) | (with_reducible refine Kd.C_drew ?_))); (case side4 => exact (Kd.R_reads' HO296.out).2.1); (case side5 => repeat (first | exact (Kd.V_reads' HO301.out).2.2 | (with_reducible refine Kd.C_alloc ?_ _) | (with_reducible refine Kd.C_drewN ?_ _) | (with_reducible refine Kd.C_drew ?_))); (case side6 => exact (Kd.V_reads' HO301.out).2.1); (case side7 => repeat (first | exact (Kd.V_reads' HO304.out).2.2 | (with_reducible refine Kd.C_alloc ?_ _) | (with_reducible refine Kd.C_drewN ?_ _) | (with_reducible refine Kd.C_drew ?_))); (case side8 => exact (Kd.V_reads' HO304.out).2.1); rintro e w74 ⟨rfl, hb⟩; refine ⟨_, rfl, ?_⟩; have n0_ := Aside0.mk (Kd.R_below (mvR_ HO293.out) hb); have n1_ := Aside0.mk (Kd.R_below (mvR_ HO296.out) hb); have n2_ := Aside0.mk (Kd.V_below (mvV_ HO301.out) hb); have n3_ := Aside0.mk (Kd.V_below (mvV_ HO304.out) hb); have n4_ := Aside0.mk (Kd.V_below (mvV_ HO309.out) hb); have n5_ := Aside0.mk (Kd.V_below (mvV_ HO313.out) hb); have n6_ := Aside0.mk (blk_below (g := gb287) (o := .cells #[.slice A2_0 l2_0.length c2_0, .slice A2_1 l2_1.length c2_1] 25 (0, 0)) (mvK_ BK287.out) hb); have n7_ := Aside0.mk (blk_below (g := gb298) (o := .cells #[.slice Ao23 t291.length co23, .slice Ao26 t294.length co26] 25 (0, 0)) (mvK_ BK298.out) hb); have n8_ := Aside0.mk (blk_below (g := gb306) (o := .cells #[.slice Ao30 t299.length co30, .slice Ao34 t302.length co34] 25 (0, 0)) (mvK_ BK306.out) hb); have n9_ := Aside0.mk (below_step (bq3_ HB.out GE287.out GE298.out GE306.out) hb); clear HO293; clear HO296; clear HO301; clear HO304; clear HO309; clear HO313; clear BK287; clear BK298; clear BK306; clear HB; have HO293 := n0_; have HO296 := n1_; have HO301 := n2_; have HO304 := n3_; have HO309 := n4_; have HO313 := n5_; have BK287 := n6_; have BK298 := n7_; have BK306 := n8_; have HB := n9_; clear n0_ n1_ n2_ n3_ n4_ n5_ n6_ n7_ n8_ n9_; (try clear hb); (try clear hb2); (try clear hk); (try clear hi)))
      go_meet
      case rel => exact ⟨_, (false), (by first | rfl | (simp; done) | (simp [*]; done)), H', ⟨by have := HJ4.out; first | omega | exact Nat.le_refl _⟩, ⟨by (with_reducible repeat (first | apply Kd.R_alloc | apply Kd.R_drewN | apply Kd.R_drew)); exact HO293.out⟩, ⟨by (with_reducible repeat (first | apply Kd.R_alloc | apply Kd.R_drewN | apply Kd.R_drew)); exact HO296.out⟩, ⟨by (with_reducible repeat (first | apply Kd.V_alloc | apply Kd.V_drewN | apply Kd.V_drew)); exact HO301.out⟩, ⟨by (with_reducible repeat (first | apply Kd.V_alloc | apply Kd.V_drewN | apply Kd.V_drew)); exact HO304.out⟩, ⟨by (with_reducible repeat (first | refine blk_drewN ?_ _ | refine blk_drew ?_ | refine blk_alloc ?_ _)); exact BK287.out⟩, ⟨by (with_reducible repeat (first | refine blk_drewN ?_ _ | refine blk_drew ?_ | refine blk_alloc ?_ _)); exact BK298.out⟩, ⟨by (with_reducible repeat (first | refine blk_drewN ?_ _ | refine blk_drew ?_ | refine blk_alloc ?_ _)); exact BK306.out⟩, ⟨by repeat (first | (with_reducible first | exact HB.out | apply below_alloc | apply pw_below_drewN | apply below_drew1 | refine below_set ?_ GE287.out | refine below_set ?_ GE298.out | refine below_set ?_ GE306.out) | exact HB.out)⟩⟩
    case rest =>
     clear HC20
     try clear c1
     try clear c2
     try clear p2
     try clear c3
     try clear c4
     try clear c5
     try clear c6
     try clear c7
     try clear c8
     try clear c9
     try clear c11
     try clear c12
     try clear c13
     try clear c14
     try clear c15
     try clear c24
     try clear c31
     try clear c32
     try clear c41
     try clear c42
     try clear c42b0
     try clear c42b1
     try clear c42b2
     try clear c44
     try clear c45
     try clear c46
     try clear c48
     try clear c54
     try clear c55
     try clear c57
     try clear c63
     try clear c64
     try clear c66
     try clear c69
     try clear c70
     try clear c72
     try clear hcz12_0
     try clear hcz12_1
     try clear hcz25_0
     try clear hcz25_1
     try clear hcz33_0
     try clear hcz33_1
     try clear hcz36_0
     try clear hcz36_1
     try clear hcz38_0
     try clear hcz38_1
     try clear hcz47_0
     try clear hcz47_1
     try clear hcz49_0
     try clear hcz49_1
     try clear hcz56_0
     try clear hcz56_1
     try clear hcz58_0
     try clear hcz58_1
     try clear hcz65_0
     try clear hcz65_1
     try clear hcz67_0
     try clear hcz67_1
     try clear hcz71_0
     try clear hcz71_1
     try clear hcz73_0
     try clear hcz73_1
     try clear hfz12_0
     try clear hfz12_1
     try clear hfz25_0
     try clear hfz25_1
     try clear hfz33_0
     try clear hfz33_1
     try clear hfz36_0
     try clear hfz36_1
     try clear hfz38_0
     try clear hfz38_1
     try clear hfz47_0
     try clear hfz47_1
     try clear hfz49_0
     try clear hfz49_1
     try clear hfz56_0
     try clear hfz56_1
     try clear hfz58_0
     try clear hfz58_1
     try clear hfz65_0
     try clear hfz65_1
     try clear hfz67_0
     try clear hfz67_1
     try clear hfz71_0
     try clear hfz71_1
     try clear hfz73_0
     try clear hfz73_1
     try clear p2
     obtain ⟨kq, x16_19, rfl, HA, HJ19, HO_299000, HO_299001, HO_307000, HO_307001, BK287, BK298, BK306, HB⟩ := hcut
     cases kq with
     | zero => exact absurd HA.out (by simp [fullerlaw17_ChainTells.j1])
     | succ kj19 =>
      have H := HA.out
      clear HA
      simp only [fullerlaw17_ChainTells.j1] at H
      by_cases c75 : t288 = true
      ·subst c75
       have H1 : (if x16_19 = true then ((chain_Check.f kj19 l0).bind fun t317 => ((fullerref17_Check.f kj19 l0).bind fun t318 => (if (t317 == t318) = true then ((chain_Newer.f kj19 l0 a1).bind fun t319 => ((fullerref17_Newer.f kj19 l0 a1).bind fun t320 => (if (t319 == t320) = true then ((chain_Trim.f kj19 l0 a1).bind fun t321 => ((fullerref17_Trim.f kj19 l0 a1).bind fun t324 => ((fullerref17_Same.f kj19 t321 t324).bind fun t327 => (some t327)))) else (some false)))) else (some false)))) else (some false)) = some r := by rw [if_pos rfl] at H; exact H
       clear H
       have H := H1
       clear H1
       by_cases c76 : x16_19 = true
       ·subst c76
        have H1 : ((chain_Check.f kj19 l0).bind fun t317 => ((fullerref17_Check.f kj19 l0).bind fun t318 => (if (t317 == t318) = true then ((chain_Newer.f kj19 l0 a1).bind fun t319 => ((fullerref17_Newer.f kj19 l0 a1).bind fun t320 => (if (t319 == t320) = true then ((chain_Trim.f kj19 l0 a1).bind fun t321 => ((fullerref17_Trim.f kj19 l0 a1).bind fun t324 => ((fullerref17_Same.f kj19 t321 t324).bind fun t327 => (some t327)))) else (some false)))) else (some false)))) = some r := by rw [if_pos rfl] at H; exact H
        clear H
        have H := H1
        clear H1
        replace H := Option.bind_eq_some_iff.mp H
        obtain ⟨t317, A770, H⟩ := H
        replace H : ((fullerref17_Check.f kj19 l0).bind fun t318 => (if (t317 == t318) = true then ((chain_Newer.f kj19 l0 a1).bind fun t319 => ((fullerref17_Newer.f kj19 l0 a1).bind fun t320 => (if (t319 == t320) = true then ((chain_Trim.f kj19 l0 a1).bind fun t321 => ((fullerref17_Trim.f kj19 l0 a1).bind fun t324 => ((fullerref17_Same.f kj19 t321 t324).bind fun t327 => (some t327)))) else (some false)))) else (some false))) = some r := H
        have A77 := Aside0.mk A770
        clear A770
        replace H := Option.bind_eq_some_iff.mp H
        obtain ⟨t318, A780, H⟩ := H
        replace H : (if (t317 == t318) = true then ((chain_Newer.f kj19 l0 a1).bind fun t319 => ((fullerref17_Newer.f kj19 l0 a1).bind fun t320 => (if (t319 == t320) = true then ((chain_Trim.f kj19 l0 a1).bind fun t321 => ((fullerref17_Trim.f kj19 l0 a1).bind fun t324 => ((fullerref17_Same.f kj19 t321 t324).bind fun t327 => (some t327)))) else (some false)))) else (some false)) = some r := H
        have A78 := Aside0.mk A780
        clear A780
        by_cases c79 : (t317 == t318) = true
        ·rw [if_pos c79] at H
         have c79b0 : (t317 == t318) = true := c79
         (try (have c79b1 : decide (t317 = t318) = true := by simpa using c79))
         (try (have c79b2 : (t317 == t318) = true := by simpa using c79))
         clear c79
         replace H := Option.bind_eq_some_iff.mp H
         obtain ⟨t319, A800, H⟩ := H
         replace H : ((fullerref17_Newer.f kj19 l0 a1).bind fun t320 => (if (t319 == t320) = true then ((chain_Trim.f kj19 l0 a1).bind fun t321 => ((fullerref17_Trim.f kj19 l0 a1).bind fun t324 => ((fullerref17_Same.f kj19 t321 t324).bind fun t327 => (some t327)))) else (some false))) = some r := H
         have A80 := Aside0.mk A800
         clear A800
         replace H := Option.bind_eq_some_iff.mp H
         obtain ⟨t320, A810, H⟩ := H
         replace H : (if (t319 == t320) = true then ((chain_Trim.f kj19 l0 a1).bind fun t321 => ((fullerref17_Trim.f kj19 l0 a1).bind fun t324 => ((fullerref17_Same.f kj19 t321 t324).bind fun t327 => (some t327)))) else (some false)) = some r := H
         have A81 := Aside0.mk A810
         clear A810
         by_cases c82 : (t319 == t320) = true
         ·rw [if_pos c82] at H
          have c82b0 : (t319 == t320) = true := c82
          (try (have c82b1 : decide (t319 = t320) = true := by simpa using c82))
          (try (have c82b2 : (t319 == t320) = true := by simpa using c82))
          clear c82
          replace H := Option.bind_eq_some_iff.mp H
          obtain ⟨t321, A830, H⟩ := H
          replace H : ((fullerref17_Trim.f kj19 l0 a1).bind fun t324 => ((fullerref17_Same.f kj19 t321 t324).bind fun t327 => (some t327))) = some r := H
          have A83 := Aside0.mk A830
          clear A830
          replace H := Option.bind_eq_some_iff.mp H
          obtain ⟨t324, A840, H⟩ := H
          replace H : ((fullerref17_Same.f kj19 t321 t324).bind fun t327 => (some t327)) = some r := H
          have A84 := Aside0.mk A840
          clear A840
          replace H := Option.bind_eq_some_iff.mp H
          obtain ⟨t327, A850, H⟩ := H
          replace H : (some t327) = some r := H
          have A85 := Aside0.mk A850
          clear A850
          obtain rfl := Option.some.inj H
          go_wp2_with (first | (go_at_call 17; (with_reducible refine (chain_Check.calls kj19 _ _ l0 t317 _ ?side1 ?side2 A77.out).mono ?_); (case side1 => repeat (first | exact (Kd.C_below HR0.out HB.out) | (with_reducible refine Kd.C_alloc ?_ _) | (with_reducible refine Kd.C_drewN ?_ _) | (with_reducible refine Kd.C_drew ?_))); (case side2 => exact HC0.out); rintro e w86 ⟨rfl, hb⟩; have n0_ := Aside0.mk (Kd.R_below (mvR_ HO_299000.out) hb); have n1_ := Aside0.mk (Kd.R_below (mvR_ HO_299001.out) hb); have n2_ := Aside0.mk (Kd.V_below (mvV_ HO_307000.out) hb); have n3_ := Aside0.mk (Kd.V_below (mvV_ HO_307001.out) hb); have n4_ := Aside0.mk (blk_below (g := gb287) (o := .cells #[.slice A2_0 l2_0.length c2_0, .slice A2_1 l2_1.length c2_1] 25 (0, 0)) (mvK_ BK287.out) hb); have n5_ := Aside0.mk (blk_below (g := gb298) (o := .cells #[.slice Ao23 t291.length co23, .slice Ao26 t294.length co26] 25 (0, 0)) (mvK_ BK298.out) hb); have n6_ := Aside0.mk (blk_below (g := gb306) (o := .cells #[.slice Ao30 t299.length co30, .slice Ao34 t302.length co34] 25 (0, 0)) (mvK_ BK306.out) hb); have n7_ := Aside0.mk (below_step (bq3_ HB.out GE287.out GE298.out GE306.out) hb); clear HO_299000; clear HO_299001; clear HO_307000; clear HO_307001; clear BK287; clear BK298; clear BK306; clear HB; have HO_299000 := n0_; have HO_299001 := n1_; have HO_307000 := n2_; have HO_307001 := n3_; have BK287 := n4_; have BK298 := n5_; have BK306 := n6_; have HB := n7_; clear n0_ n1_ n2_ n3_ n4_ n5_ n6_ n7_; (try clear hb); (try clear hb2); (try clear hk); (try clear hi)) | (go_at_call 18; (with_reducible refine (fullerref17_Check.calls kj19 _ _ l0 t318 _ ?side1 ?side2 A78.out).mono ?_); (case side1 => repeat (first | exact (Kd.C_below HR0.out HB.out) | (with_reducible refine Kd.C_alloc ?_ _) | (with_reducible refine Kd.C_drewN ?_ _) | (with_reducible refine Kd.C_drew ?_))); (case side2 => exact HC0.out); rintro e w87 ⟨rfl, hb⟩; have n0_ := Aside0.mk (Kd.R_below (mvR_ HO_299000.out) hb); have n1_ := Aside0.mk (Kd.R_below (mvR_ HO_299001.out) hb); have n2_ := Aside0.mk (Kd.V_below (mvV_ HO_307000.out) hb); have n3_ := Aside0.mk (Kd.V_below (mvV_ HO_307001.out) hb); have n4_ := Aside0.mk (blk_below (g := gb287) (o := .cells #[.slice A2_0 l2_0.length c2_0, .slice A2_1 l2_1.length c2_1] 25 (0, 0)) (mvK_ BK287.out) hb); have n5_ := Aside0.mk (blk_below (g := gb298) (o := .cells #[.slice Ao23 t291.length co23, .slice Ao26 t294.length co26] 25 (0, 0)) (mvK_ BK298.out) hb); have n6_ := Aside0.mk (blk_below (g := gb306) (o := .cells #[.slice Ao30 t299.length co30, .slice Ao34 t302.length co34] 25 (0, 0)) (mvK_ BK306.out) hb); have n7_ := Aside0.mk (below_step (bq3_ HB.out GE287.out GE298.out GE306.out) hb); clear HO_299000; clear HO_299001; clear HO_307000; clear HO_307001; clear BK287; clear BK298; clear BK306; clear HB; have HO_299000 := n0_; have HO_299001 := n1_; have HO_307000 := n2_; have HO_307001 := n3_; have BK287 := n4_; have BK298 := n5_; have BK306 := n6_; have HB := n7_; clear n0_ n1_ n2_ n3_ n4_ n5_ n6_ n7_; (try clear hb); (try clear hb2); (try clear hk); (try clear hi)) | (go_at_call 19; (with_reducible refine (chain_Newer.calls kj19 _ _ l0 a1 t319 _ ?side1 ?side2 A80.out).mono ?_); (case side1 => repeat (first | exact (Kd.C_below HR0.out HB.out) | (with_reducible refine Kd.C_alloc ?_ _) | (with_reducible refine Kd.C_drewN ?_ _) | (with_reducible refine Kd.C_drew ?_))); (case side2 => exact HC0.out); rintro e w88 ⟨rfl, hb⟩; have n0_ := Aside0.mk (Kd.R_below (mvR_ HO_299000.out) hb); have n1_ := Aside0.mk (Kd.R_below (mvR_ HO_299001.out) hb); have n2_ := Aside0.mk (Kd.V_below (mvV_ HO_307000.out) hb); have n3_ := Aside0.mk (Kd.V_below (mvV_ HO_307001.out) hb); have n4_ := Aside0.mk (blk_below (g := gb287) (o := .cells #[.slice A2_0 l2_0.length c2_0, .slice A2_1 l2_1.length c2_1] 25 (0, 0)) (mvK_ BK287.out) hb); have n5_ := Aside0.mk (blk_below (g := gb298) (o := .cells #[.slice Ao23 t291.length co23, .slice Ao26 t294.length co26] 25 (0, 0)) (mvK_ BK298.out) hb); have n6_ := Aside0.mk (blk_below (g := gb306) (o := .cells #[.slice Ao30 t299.length co30, .slice Ao34 t302.length co34] 25 (0, 0)) (mvK_ BK306.out) hb); have n7_ := Aside0.mk (below_step (bq3_ HB.out GE287.out GE298.out GE306.out) hb); clear HO_299000; clear HO_299001; clear HO_307000; clear HO_307001; clear BK287; clear BK298; clear BK306; clear HB; have HO_299000 := n0_; have HO_299001 := n1_; have HO_307000 := n2_; have HO_307001 := n3_; have BK287 := n4_; have BK298 := n5_; have BK306 := n6_; have HB := n7_; clear n0_ n1_ n2_ n3_ n4_ n5_ n6_ n7_; (try clear hb); (try clear hb2); (try clear hk); (try clear hi)) | (go_at_call 20; (with_reducible refine (fullerref17_Newer.calls kj19 _ _ l0 a1 t320 _ ?side1 ?side2 A81.out).mono ?_); (case side1 => repeat (first | exact (Kd.C_below HR0.out HB.out) | (with_reducible refine Kd.C_alloc ?_ _) | (with_reducible refine Kd.C_drewN ?_ _) | (with_reducible refine Kd.C_drew ?_))); (case side2 => exact HC0.out); rintro e w89 ⟨rfl, hb⟩; have n0_ := Aside0.mk (Kd.R_below (mvR_ HO_299000.out) hb); have n1_ := Aside0.mk (Kd.R_below (mvR_ HO_299001.out) hb); have n2_ := Aside0.mk (Kd.V_below (mvV_ HO_307000.out) hb); have n3_ := Aside0.mk (Kd.V_below (mvV_ HO_307001.out) hb); have n4_ := Aside0.mk (blk_below (g := gb287) (o := .cells #[.slice A2_0 l2_0.length c2_0, .slice A2_1 l2_1.length c2_1] 25 (0, 0)) (mvK_ BK287.out) hb); have n5_ := Aside0.mk (blk_below (g := gb298) (o := .cells #[.slice Ao23 t291.length co23, .slice Ao26 t294.length co26] 25 (0, 0)) (mvK_ BK298.out) hb); have n6_ := Aside0.mk (blk_below (g := gb306) (o := .cells #[.slice Ao30 t299.length co30, .slice Ao34 t302.length co34] 25 (0, 0)) (mvK_ BK306.out) hb); have n7_ := Aside0.mk (below_step (bq3_ HB.out GE287.out GE298.out GE306.out) hb); clear HO_299000; clear HO_299001; clear HO_307000; clear HO_307001; clear BK287; clear BK298; clear BK306; clear HB; have HO_299000 := n0_; have HO_299001 := n1_; have HO_307000 := n2_; have HO_307001 := n3_; have BK287 := n4_; have BK298 := n5_; have BK306 := n6_; have HB := n7_; clear n0_ n1_ n2_ n3_ n4_ n5_ n6_ n7_; (try clear hb); (try clear hb2); (try clear hk); (try clear hi)) | (go_at_call 21; (with_reducible refine (chain_Trim.calls kj19 (fun k_ => k_ < w.heap.size) _ _ l0 a1 t321 _ ?side1 A83.out).mono ?_); (case side1 => exact Kd.V_mk HC0.out (Kd.F_below (Kd.C_F k41_heap HR0.out) (bq3_ HB.out GE287.out GE298.out GE306.out))); rintro e w90 ⟨v322, rfl, ho0, hb⟩; have n0_ := Aside0.mk (Kd.R_below (mvR_ HO_299000.out) hb); have n1_ := Aside0.mk (Kd.R_below (mvR_ HO_299001.out) hb); have n2_ := Aside0.mk (Kd.V_below (mvV_ HO_307000.out) hb); have n3_ := Aside0.mk (Kd.V_below (mvV_ HO_307001.out) hb); have n4_ := Aside0.mk (Kd.V_lower (Kd.V_mono (ok' := fun k_ => some k_ ≠ (.slice Ao23 t291.length co23 : Value).ownBlock ∧ some k_ ≠ (.slice Ao26 t294.length co26 : Value).ownBlock ∧ k_ ≠ gb287 ∧ k_ ≠ gb298 ∧ k_ ≠ gb306) ho0 (fun k_ hk_ => ⟨Or.elim hk_ (fun hs_ => fun e_ => Nat.not_le.2 hs_ (Kd.R_base HO_299000.out k_ e_.symm)) (fun hn_ => (Kd.fresh' (Kd.R_lt (mvR_ HO_299000.out)) k_ hn_)), Or.elim hk_ (fun hs_ => fun e_ => Nat.not_le.2 hs_ (Kd.R_base HO_299001.out k_ e_.symm)) (fun hn_ => (Kd.fresh' (Kd.R_lt (mvR_ HO_299001.out)) k_ hn_)), Or.elim hk_ (fun hs_ => fun e_ => Nat.not_le.2 hs_ (by rw [e_]; exact GW287.out)) (fun hn_ => (Kd.freshB (g := gb287) (o := .cells #[.slice A2_0 l2_0.length c2_0, .slice A2_1 l2_1.length c2_1] 25 (0, 0)) (mvK_ BK287.out) k_ hn_)), Or.elim hk_ (fun hs_ => fun e_ => Nat.not_le.2 hs_ (by rw [e_]; exact GW298.out)) (fun hn_ => (Kd.freshB (g := gb298) (o := .cells #[.slice Ao23 t291.length co23, .slice Ao26 t294.length co26] 25 (0, 0)) (mvK_ BK298.out) k_ hn_)), Or.elim hk_ (fun hs_ => fun e_ => Nat.not_le.2 hs_ (by rw [e_]; exact GW306.out)) (fun hn_ => (Kd.freshB (g := gb306) (o := .cells #[.slice Ao30 t299.length co30, .slice Ao34 t302.length co34] 25 (0, 0)) (mvK_ BK306.out) k_ hn_))⟩)) (below_size (bq3_ HB.out GE287.out GE298.out GE306.out))); have n5_ := Aside0.mk (blk_below (g := gb287) (o := .cells #[.slice A2_0 l2_0.length c2_0, .slice A2_1 l2_1.length c2_1] 25 (0, 0)) (mvK_ BK287.out) hb); have n6_ := Aside0.mk (blk_below (g := gb298) (o := .cells #[.slice Ao23 t291.length co23, .slice Ao26 t294.length co26] 25 (0, 0)) (mvK_ BK298.out) hb); have n7_ := Aside0.mk (blk_below (g := gb306) (o := .cells #[.slice Ao30 t299.length co30, .slice Ao34 t302.length co34] 25 (0, 0)) (mvK_ BK306.out) hb); have n8_ := Aside0.mk (below_step (bq3_ HB.out GE287.out GE298.out GE306.out) hb); clear HO_299000; clear HO_299001; clear HO_307000; clear HO_307001; clear BK287; clear BK298; clear BK306; clear HB; have HO_299000 := n0_; have HO_299001 := n1_; have HO_307000 := n2_; have HO_307001 := n3_; have HO323 := n4_; have BK287 := n5_; have BK298 := n6_; have BK306 := n7_; have HB := n8_; clear n0_ n1_ n2_ n3_ n4_ n5_ n6_ n7_ n8_; (try clear hb); (try clear hb2); (try clear hk); (try clear hi); (try clear ho0)) | (go_at_call 22; (with_reducible refine (fullerref17_Trim.calls kj19 (fun k_ => k_ < w.heap.size) _ _ l0 a1 t324 _ ?side1 A84.out).mono ?_); (case side1 => exact Kd.V_mk HC0.out (Kd.F_below (Kd.C_F k41_heap HR0.out) (bq3_ HB.out GE287.out GE298.out GE306.out))); rintro e w91 ⟨v325, rfl, ho0, hb⟩; have n0_ := Aside0.mk (Kd.R_below (mvR_ HO_299000.out) hb); have n1_ := Aside0.mk (Kd.R_below (mvR_ HO_299001.out) hb); have n2_ := Aside0.mk (Kd.V_below (mvV_ HO_307000.out) hb); have n3_ := Aside0.mk (Kd.V_below (mvV_ HO_307001.out) hb); have n4_ := Aside0.mk (Kd.V_below (mvV_ HO323.out) hb); have n5_ := Aside0.mk (Kd.V_lower (Kd.V_mono (ok' := fun k_ => some k_ ≠ (.slice Ao23 t291.length co23 : Value).ownBlock ∧ some k_ ≠ (.slice Ao26 t294.length co26 : Value).ownBlock ∧ k_ ≠ gb287 ∧ k_ ≠ gb298 ∧ k_ ≠ gb306) ho0 (fun k_ hk_ => ⟨Or.elim hk_ (fun hs_ => fun e_ => Nat.not_le.2 hs_ (Kd.R_base HO_299000.out k_ e_.symm)) (fun hn_ => (Kd.fresh' (Kd.R_lt (mvR_ HO_299000.out)) k_ hn_)), Or.elim hk_ (fun hs_ => fun e_ => Nat.not_le.2 hs_ (Kd.R_base HO_299001.out k_ e_.symm)) (fun hn_ => (Kd.fresh' (Kd.R_lt (mvR_ HO_299001.out)) k_ hn_)), Or.elim hk_ (fun hs_ => fun e_ => Nat.not_le.2 hs_ (by rw [e_]; exact GW287.out)) (fun hn_ => (Kd.freshB (g := gb287) (o := .cells #[.slice A2_0 l2_0.length c2_0, .slice A2_1 l2_1.length c2_1] 25 (0, 0)) (mvK_ BK287.out) k_ hn_)), Or.elim hk_ (fun hs_ => fun e_ => Nat.not_le.2 hs_ (by rw [e_]; exact GW298.out)) (fun hn_ => (Kd.freshB (g := gb298) (o := .cells #[.slice Ao23 t291.length co23, .slice Ao26 t294.length co26] 25 (0, 0)) (mvK_ BK298.out) k_ hn_)), Or.elim hk_ (fun hs_ => fun e_ => Nat.not_le.2 hs_ (by rw [e_]; exact GW306.out)) (fun hn_ => (Kd.freshB (g := gb306) (o := .cells #[.slice Ao30 t299.length co30, .slice Ao34 t302.length co34] 25 (0, 0)) (mvK_ BK306.out) k_ hn_))⟩)) (below_size (bq3_ HB.out GE287.out GE298.out GE306.out))); have n6_ := Aside0.mk (blk_below (g := gb287) (o := .cells #[.slice A2_0 l2_0.length c2_0, .slice A2_1 l2_1.length c2_1] 25 (0, 0)) (mvK_ BK287.out) hb); have n7_ := Aside0.mk (blk_below (g := gb298) (o := .cells #[.slice Ao23 t291.length co23, .slice Ao26 t294.length co26] 25 (0, 0)) (mvK_ BK298.out) hb); have n8_ := Aside0.mk (blk_below (g := gb306) (o := .cells #[.slice Ao30 t299.length co30, .slice Ao34 t302.length co34] 25 (0, 0)) (mvK_ BK306.out) hb); have n9_ := Aside0.mk (below_step (bq3_ HB.out GE287.out GE298.out GE306.out) hb); clear HO_299000; clear HO_299001; clear HO_307000; clear HO_307001; clear HO323; clear BK287; clear BK298; clear BK306; clear HB; have HO_299000 := n0_; have HO_299001 := n1_; have HO_307000 := n2_; have HO_307001 := n3_; have HO323 := n4_; have HO326 := n5_; have BK287 := n6_; have BK298 := n7_; have BK306 := n8_; have HB := n9_; clear n0_ n1_ n2_ n3_ n4_ n5_ n6_ n7_ n8_ n9_; (try clear hb); (try clear hb2); (try clear hk); (try clear hi); (try clear ho0); obtain ⟨Ao92, co92, eo92⟩ := Kd.V_slice HO323.out; subst eo92; obtain ⟨Ao93, co93, eo93⟩ := Kd.V_slice HO326.out; subst eo93) | (go_at_call 16; (with_reducible refine (fullerref17_Same.calls kj19 _ _ t321 _ _ t324 t327 _ ?side1 ?side2 ?side3 ?side4 A85.out).mono ?_); (case side1 => repeat (first | exact (Kd.V_reads' HO323.out).2.2 | (with_reducible refine Kd.C_alloc ?_ _) | (with_reducible refine Kd.C_drewN ?_ _) | (with_reducible refine Kd.C_drew ?_))); (case side2 => exact (Kd.V_reads' HO323.out).2.1); (case side3 => repeat (first | exact (Kd.V_reads' HO326.out).2.2 | (with_reducible refine Kd.C_alloc ?_ _) | (with_reducible refine Kd.C_drewN ?_ _) | (with_reducible refine Kd.C_drew ?_))); (case side4 => exact (Kd.V_reads' HO326.out).2.1); rintro e w94 ⟨rfl, hb⟩; have n0_ := Aside0.mk (Kd.R_below (mvR_ HO_299000.out) hb); have n1_ := Aside0.mk (Kd.R_below (mvR_ HO_299001.out) hb); have n2_ := Aside0.mk (Kd.V_below (mvV_ HO_307000.out) hb); have n3_ := Aside0.mk (Kd.V_below (mvV_ HO_307001.out) hb); have n4_ := Aside0.mk (Kd.V_below (mvV_ HO323.out) hb); have n5_ := Aside0.mk (Kd.V_below (mvV_ HO326.out) hb); have n6_ := Aside0.mk (blk_below (g := gb287) (o := .cells #[.slice A2_0 l2_0.length c2_0, .slice A2_1 l2_1.length c2_1] 25 (0, 0)) (mvK_ BK287.out) hb); have n7_ := Aside0.mk (blk_below (g := gb298) (o := .cells #[.slice Ao23 t291.length co23, .slice Ao26 t294.length co26] 25 (0, 0)) (mvK_ BK298.out) hb); have n8_ := Aside0.mk (blk_below (g := gb306) (o := .cells #[.slice Ao30 t299.length co30, .slice Ao34 t302.length co34] 25 (0, 0)) (mvK_ BK306.out) hb); have n9_ := Aside0.mk (below_step (bq3_ HB.out GE287.out GE298.out GE306.out) hb); clear HO_299000; clear HO_299001; clear HO_307000; clear HO_307001; clear HO323; clear HO326; clear BK287; clear BK298; clear BK306; clear HB; have HO_299000 := n0_; have HO_299001 := n1_; have HO_307000 := n2_; have HO_307001 := n3_; have HO323 := n4_; have HO326 := n5_; have BK287 := n6_; have BK298 := n7_; have BK306 := n8_; have HB := n9_; clear n0_ n1_ n2_ n3_ n4_ n5_ n6_ n7_ n8_ n9_; (try clear hb); (try clear hb2); (try clear hk); (try clear hi)))
          go_ret
          exact ⟨by first | rfl | (simp [errW_none, errW_some] <;> rfl) | (simp [*, errW_none, errW_some] <;> rfl), by repeat (first | (with_reducible first | exact HB.out | apply below_alloc | apply pw_below_drewN | apply below_drew1 | refine below_set ?_ GE287.out | refine below_set ?_ GE298.out | refine below_set ?_ GE306.out) | exact HB.out)⟩
         ·rw [if_neg c82] at H
          have c82b0 : (t319 == t320) = false := by simpa using c82
          (try (have c82b1 : decide (t319 = t320) = false := by simpa using c82))
          (try (have c82b2 : (t319 == t320) = false := by simpa using c82))
          (try (have c82b3 : ¬ (t319 = t320) := by simpa using c82))
          clear c82
          obtain rfl := Option.some.inj H
          go_wp2_with (first | (go_at_call 17; (with_reducible refine (chain_Check.calls kj19 _ _ l0 t317 _ ?side1 ?side2 A77.out).mono ?_); (case side1 => repeat (first | exact (Kd.C_below HR0.out HB.out) | (with_reducible refine Kd.C_alloc ?_ _) | (with_reducible refine Kd.C_drewN ?_ _) | (with_reducible refine Kd.C_drew ?_))); (case side2 => exact HC0.out); rintro e w95 ⟨rfl, hb⟩; have n0_ := Aside0.mk (Kd.R_below (mvR_ HO_299000.out) hb); have n1_ := Aside0.mk (Kd.R_below (mvR_ HO_299001.out) hb); have n2_ := Aside0.mk (Kd.V_below (mvV_ HO_307000.out) hb); have n3_ := Aside0.mk (Kd.V_below (mvV_ HO_307001.out) hb); have n4_ := Aside0.mk (blk_below (g := gb287) (o := .cells #[.slice A2_0 l2_0.length c2_0, .slice A2_1 l2_1.length c2_1] 25 (0, 0)) (mvK_ BK287.out) hb); have n5_ := Aside0.mk (blk_below (g := gb298) (o := .cells #[.slice Ao23 t291.length co23, .slice Ao26 t294.length co26] 25 (0, 0)) (mvK_ BK298.out) hb); have n6_ := Aside0.mk (blk_below (g := gb306) (o := .cells #[.slice Ao30 t299.length co30, .slice Ao34 t302.length co34] 25 (0, 0)) (mvK_ BK306.out) hb); have n7_ := Aside0.mk (below_step (bq3_ HB.out GE287.out GE298.out GE306.out) hb); clear HO_299000; clear HO_299001; clear HO_307000; clear HO_307001; clear BK287; clear BK298; clear BK306; clear HB; have HO_299000 := n0_; have HO_299001 := n1_; have HO_307000 := n2_; have HO_307001 := n3_; have BK287 := n4_; have BK298 := n5_; have BK306 := n6_; have HB := n7_; clear n0_ n1_ n2_ n3_ n4_ n5_ n6_ n7_; (try clear hb); (try clear hb2); (try clear hk); (try clear hi)) | (go_at_call 18; (with_reducible refine (fullerref17_Check.calls kj19 _ _ l0 t318 _ ?side1 ?side2 A78.out).mono ?_); (case side1 => repeat (first | exact (Kd.C_below HR0.out HB.out) | (with_reducible refine Kd.C_alloc ?_ _) | (with_reducible refine Kd.C_drewN ?_ _) | (with_reducible refine Kd.C_drew ?_))); (case side2 => exact HC0.out); rintro e w96 ⟨rfl, hb⟩; have n0_ := Aside0.mk (Kd.R_below (mvR_ HO_299000.out) hb); have n1_ := Aside0.mk (Kd.R_below (mvR_ HO_299001.out) hb); have n2_ := Aside0.mk (Kd.V_below (mvV_ HO_307000.out) hb); have n3_ := Aside0.mk (Kd.V_below (mvV_ HO_307001.out) hb); have n4_ := Aside0.mk (blk_below (g := gb287) (o := .cells #[.slice A2_0 l2_0.length c2_0, .slice A2_1 l2_1.length c2_1] 25 (0, 0)) (mvK_ BK287.out) hb); have n5_ := Aside0.mk (blk_below (g := gb298) (o := .cells #[.slice Ao23 t291.length co23, .slice Ao26 t294.length co26] 25 (0, 0)) (mvK_ BK298.out) hb); have n6_ := Aside0.mk (blk_below (g := gb306) (o := .cells #[.slice Ao30 t299.length co30, .slice Ao34 t302.length co34] 25 (0, 0)) (mvK_ BK306.out) hb); have n7_ := Aside0.mk (below_step (bq3_ HB.out GE287.out GE298.out GE306.out) hb); clear HO_299000; clear HO_299001; clear HO_307000; clear HO_307001; clear BK287; clear BK298; clear BK306; clear HB; have HO_299000 := n0_; have HO_299001 := n1_; have HO_307000 := n2_; have HO_307001 := n3_; have BK287 := n4_; have BK298 := n5_; have BK306 := n6_; have HB := n7_; clear n0_ n1_ n2_ n3_ n4_ n5_ n6_ n7_; (try clear hb); (try clear hb2); (try clear hk); (try clear hi)) | (go_at_call 19; (with_reducible refine (chain_Newer.calls kj19 _ _ l0 a1 t319 _ ?side1 ?side2 A80.out).mono ?_); (case side1 => repeat (first | exact (Kd.C_below HR0.out HB.out) | (with_reducible refine Kd.C_alloc ?_ _) | (with_reducible refine Kd.C_drewN ?_ _) | (with_reducible refine Kd.C_drew ?_))); (case side2 => exact HC0.out); rintro e w97 ⟨rfl, hb⟩; have n0_ := Aside0.mk (Kd.R_below (mvR_ HO_299000.out) hb); have n1_ := Aside0.mk (Kd.R_below (mvR_ HO_299001.out) hb); have n2_ := Aside0.mk (Kd.V_below (mvV_ HO_307000.out) hb); have n3_ := Aside0.mk (Kd.V_below (mvV_ HO_307001.out) hb); have n4_ := Aside0.mk (blk_below (g := gb287) (o := .cells #[.slice A2_0 l2_0.length c2_0, .slice A2_1 l2_1.length c2_1] 25 (0, 0)) (mvK_ BK287.out) hb); have n5_ := Aside0.mk (blk_below (g := gb298) (o := .cells #[.slice Ao23 t291.length co23, .slice Ao26 t294.length co26] 25 (0, 0)) (mvK_ BK298.out) hb); have n6_ := Aside0.mk (blk_below (g := gb306) (o := .cells #[.slice Ao30 t299.length co30, .slice Ao34 t302.length co34] 25 (0, 0)) (mvK_ BK306.out) hb); have n7_ := Aside0.mk (below_step (bq3_ HB.out GE287.out GE298.out GE306.out) hb); clear HO_299000; clear HO_299001; clear HO_307000; clear HO_307001; clear BK287; clear BK298; clear BK306; clear HB; have HO_299000 := n0_; have HO_299001 := n1_; have HO_307000 := n2_; have HO_307001 := n3_; have BK287 := n4_; have BK298 := n5_; have BK306 := n6_; have HB := n7_; clear n0_ n1_ n2_ n3_ n4_ n5_ n6_ n7_; (try clear hb); (try clear hb2); (try clear hk); (try clear hi)) | (go_at_call 20; (with_reducible refine (fullerref17_Newer.calls kj19 _ _ l0 a1 t320 _ ?side1 ?side2 A81.out).mono ?_); (case side1 => repeat (first | exact (Kd.C_below HR0.out HB.out) | (with_reducible refine Kd.C_alloc ?_ _) | (with_reducible refine Kd.C_drewN ?_ _) | (with_reducible refine Kd.C_drew ?_))); (case side2 => exact HC0.out); rintro e w98 ⟨rfl, hb⟩; have n0_ := Aside0.mk (Kd.R_below (mvR_ HO_299000.out) hb); have n1_ := Aside0.mk (Kd.R_below (mvR_ HO_299001.out) hb); have n2_ := Aside0.mk (Kd.V_below (mvV_ HO_307000.out) hb); have n3_ := Aside0.mk (Kd.V_below (mvV_ HO_307001.out) hb); have n4_ := Aside0.mk (blk_below (g := gb287) (o := .cells #[.slice A2_0 l2_0.length c2_0, .slice A2_1 l2_1.length c2_1] 25 (0, 0)) (mvK_ BK287.out) hb); have n5_ := Aside0.mk (blk_below (g := gb298) (o := .cells #[.slice Ao23 t291.length co23, .slice Ao26 t294.length co26] 25 (0, 0)) (mvK_ BK298.out) hb); have n6_ := Aside0.mk (blk_below (g := gb306) (o := .cells #[.slice Ao30 t299.length co30, .slice Ao34 t302.length co34] 25 (0, 0)) (mvK_ BK306.out) hb); have n7_ := Aside0.mk (below_step (bq3_ HB.out GE287.out GE298.out GE306.out) hb); clear HO_299000; clear HO_299001; clear HO_307000; clear HO_307001; clear BK287; clear BK298; clear BK306; clear HB; have HO_299000 := n0_; have HO_299001 := n1_; have HO_307000 := n2_; have HO_307001 := n3_; have BK287 := n4_; have BK298 := n5_; have BK306 := n6_; have HB := n7_; clear n0_ n1_ n2_ n3_ n4_ n5_ n6_ n7_; (try clear hb); (try clear hb2); (try clear hk); (try clear hi)))
          go_ret
          exact ⟨by first | rfl | (simp [errW_none, errW_some] <;> rfl) | (simp [*, errW_none, errW_some] <;> rfl), by repeat (first | (with_reducible first | exact HB.out | apply below_alloc | apply pw_below_drewN | apply below_drew1 | refine below_set ?_ GE287.out | refine below_set ?_ GE298.out | refine below_set ?_ GE306.out) | exact HB.out)⟩
        ·rw [if_neg c79] at H
         have c79b0 : (t317 == t318) = false := by simpa using c79
         (try (have c79b1 : decide (t317 = t318) = false := by simpa using c79))
         (try (have c79b2 : (t317 == t318) = false := by simpa using c79))
         (try (have c79b3 : ¬ (t317 = t318) := by simpa using c79))
         clear c79
         obtain rfl := Option.some.inj H
         go_wp2_with (first | (go_at_call 17; (with_reducible refine (chain_Check.calls kj19 _ _ l0 t317 _ ?side1 ?side2 A77.out).mono ?_); (case side1 => repeat (first | exact (Kd.C_below HR0.out HB.out) | (with_reducible refine Kd.C_alloc ?_ _) | (with_reducible refine Kd.C_drewN ?_ _) | (with_reducible refine Kd.C_drew ?_))); (case side2 => exact HC0.out); rintro e w99 ⟨rfl, hb⟩; have n0_ := Aside0.mk (Kd.R_below (mvR_ HO_299000.out) hb); have n1_ := Aside0.mk (Kd.R_below (mvR_ HO_299001.out) hb); have n2_ := Aside0.mk (Kd.V_below (mvV_ HO_307000.out) hb); have n3_ := Aside0.mk (Kd.V_below (mvV_ HO_307001.out) hb); have n4_ := Aside0.mk (blk_below (g := gb287) (o := .cells #[.slice A2_0 l2_0.length c2_0, .slice A2_1 l2_1.length c2_1] 25 (0, 0)) (mvK_ BK287.out) hb); have n5_ := Aside0.mk (blk_below (g := gb298) (o := .cells #[.slice Ao23 t291.length co23, .slice Ao26 t294.length co26] 25 (0, 0)) (mvK_ BK298.out) hb); have n6_ := Aside0.mk (blk_below (g := gb306) (o := .cells #[.slice Ao30 t299.length co30, .slice Ao34 t302.length co34] 25 (0, 0)) (mvK_ BK306.out) hb); have n7_ := Aside0.mk (below_step (bq3_ HB.out GE287.out GE298.out GE306.out) hb); clear HO_299000; clear HO_299001; clear HO_307000; clear HO_307001; clear BK287; clear BK298; clear BK306; clear HB; have HO_299000 := n0_; have HO_299001 := n1_; have HO_307000 := n2_; have HO_307001 := n3_; have BK287 := n4_; have BK298 := n5_; have BK306 := n6_; have HB := n7_; clear n0_ n1_ n2_ n3_ n4_ n5_ n6_ n7_; (try clear hb); (try clear hb2); (try clear hk); (try clear hi)) | (go_at_call 18; (with_reducible refine (fullerref17_Check.calls kj19 _ _ l0 t318 _ ?side1 ?side2 A78.out).mono ?_); (case side1 => repeat (first | exact (Kd.C_below HR0.out HB.out) | (with_reducible refine Kd.C_alloc ?_ _) | (with_reducible refine Kd.C_drewN ?_ _) | (with_reducible refine Kd.C_drew ?_))); (case side2 => exact HC0.out); rintro e w100 ⟨rfl, hb⟩; have n0_ := Aside0.mk (Kd.R_below (mvR_ HO_299000.out) hb); have n1_ := Aside0.mk (Kd.R_below (mvR_ HO_299001.out) hb); have n2_ := Aside0.mk (Kd.V_below (mvV_ HO_307000.out) hb); have n3_ := Aside0.mk (Kd.V_below (mvV_ HO_307001.out) hb); have n4_ := Aside0.mk (blk_below (g := gb287) (o := .cells #[.slice A2_0 l2_0.length c2_0, .slice A2_1 l2_1.length c2_1] 25 (0, 0)) (mvK_ BK287.out) hb); have n5_ := Aside0.mk (blk_below (g := gb298) (o := .cells #[.slice Ao23 t291.length co23, .slice Ao26 t294.length co26] 25 (0, 0)) (mvK_ BK298.out) hb); have n6_ := Aside0.mk (blk_below (g := gb306) (o := .cells #[.slice Ao30 t299.length co30, .slice Ao34 t302.length co34] 25 (0, 0)) (mvK_ BK306.out) hb); have n7_ := Aside0.mk (below_step (bq3_ HB.out GE287.out GE298.out GE306.out) hb); clear HO_299000; clear HO_299001; clear HO_307000; clear HO_307001; clear BK287; clear BK298; clear BK306; clear HB; have HO_299000 := n0_; have HO_299001 := n1_; have HO_307000 := n2_; have HO_307001 := n3_; have BK287 := n4_; have BK298 := n5_; have BK306 := n6_; have HB := n7_; clear n0_ n1_ n2_ n3_ n4_ n5_ n6_ n7_; (try clear hb); (try clear hb2); (try clear hk); (try clear hi)))
         go_ret
         exact ⟨by first | rfl | (simp [errW_none, errW_some] <;> rfl) | (simp [*, errW_none, errW_some] <;> rfl), by repeat (first | (with_reducible first | exact HB.out | apply below_alloc | apply pw_below_drewN | apply below_drew1 | refine below_set ?_ GE287.out | refine below_set ?_ GE298.out | refine below_set ?_ GE306.out) | exact HB.out)⟩
       ·replace c76 := Bool.eq_false_iff.mpr c76
        subst c76
        have H1 : (some false) = some r := by rw [if_neg (show ¬ (false = true) by decide)] at H; exact H
        clear H
        have H := H1
        clear H1
        obtain rfl := Option.some.inj H
        go_wp2
        go_ret
        exact ⟨by first | rfl | (simp [errW_none, errW_some] <;> rfl) | (simp [*, errW_none, errW_some] <;> rfl), by repeat (first | (with_reducible first | exact HB.out | apply below_alloc | apply pw_below_drewN | apply below_drew1 | refine below_set ?_ GE287.out | refine below_set ?_ GE298.out | refine below_set ?_ GE306.out) | exact HB.out)⟩
      ·replace c75 := Bool.eq_false_iff.mpr c75
       subst c75
       have H1 : (some false) = some r := by rw [if_neg (show ¬ (false = true) by decide)] at H; exact H
       clear H
       have H := H1
       clear H1
       obtain rfl := Option.some.inj H
       go_wp2
       go_ret
       exact ⟨by first | rfl | (simp [errW_none, errW_some] <;> rfl) | (simp [*, errW_none, errW_some] <;> rfl), by repeat (first | (with_reducible first | exact HB.out | apply below_alloc | apply pw_below_drewN | apply below_drew1 | refine below_set ?_ GE287.out | refine below_set ?_ GE298.out | refine below_set ?_ GE306.out) | exact HB.out)⟩

/-- THE ONE PURE STATEMENT of fullerlaw17_ChainTells: yours. -/
def fullerlaw17_ChainTells.Pure : Prop := ∀ (l0 : List (S41)) (a1 : Int) (l2_0 : List Int) (l2_1 : List Int), (l0.length * 56 ≤ 140737488351232 ∧ ∀ x_ ∈ l0, OK41 x_) → ((Lit.int .i64 a1).wf = true) → (l2_0.length * 8 ≤ 140737488351232 ∧ ∀ x_ ∈ l2_0, (Lit.int .i64 x_).wf = true) → (l2_1.length * 8 ≤ 140737488351232 ∧ ∀ x_ ∈ l2_1, (Lit.int .i64 x_).wf = true) → ∃ k, fullerlaw17_ChainTells.f k l0 a1 l2_0 l2_1 = some true
theorem fullerlaw17_ChainTells.walk (P : fullerlaw17_ChainTells.Pure) (A0 : Option Addr) (c0 : Nat) (l0 : List (S41)) (a1 : Int) (A2_0 : Option Addr) (c2_0 : Nat) (l2_0 : List Int) (A2_1 : Option Addr) (c2_1 : Nat) (l2_1 : List Int) (w : World) (hr0 : Kd.C k41 w A0 l0.length l0) (hc0 : l0.length ≤ c0) (hr2_0 : Kd.C (Kd.int .i64) w A2_0 l2_0.length l2_0) (hc2_0 : l2_0.length ≤ c2_0) (hr2_1 : Kd.C (Kd.int .i64) w A2_1 l2_1.length l2_1) (hc2_1 : l2_1.length ≤ c2_1) (hg0 : l0.length * 56 ≤ 140737488351232 ∧ ∀ x_ ∈ l0, OK41 x_) (hg1 : (Lit.int .i64 a1).wf = true) (hg2_0 : l2_0.length * 8 ≤ 140737488351232 ∧ ∀ x_ ∈ l2_0, (Lit.int .i64 x_).wf = true) (hg2_1 : l2_1.length * 8 ≤ 140737488351232 ∧ ∀ x_ ∈ l2_1, (Lit.int .i64 x_).wf = true) :
  Calls Try.prog 3 #[.slice A0 l0.length c0, .int .i64 a1, .agg #[.slice A2_0 l2_0.length c2_0, .slice A2_1 l2_1.length c2_1]] w fun e w' => e = .returned (.bool true) ∧ Below w.heap.size w w' := by
 obtain ⟨k, h⟩ := P l0 a1 l2_0 l2_1 hg0 hg1 hg2_0 hg2_1
 refine (fullerlaw17_ChainTells.calls k _ _ l0 a1 _ _ l2_0 _ _ l2_1 true w hr0 hc0 hr2_0 hc2_0 hr2_1 hc2_1 h).mono ?_
 rintro e w' ⟨rfl, hd⟩
 exact ⟨rfl, hd⟩

end Go.Proofs.Ytdjlpbekoggmiaa.A
