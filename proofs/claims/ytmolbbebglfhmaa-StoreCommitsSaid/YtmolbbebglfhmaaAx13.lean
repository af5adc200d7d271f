/- Lean functions that answer as the Go functions do, and the proofs that they do; no conditions. Written by this session's own driver: a scratch copy of the kit's print with the session's additions (wip/xprint). -/
import Derived.Test.YtmolbbebglfhmaaAx0
import Derived.Test.YtmolbbebglfhmaaAx9
import Derived.Test.YtmolbbebglfhmaaAx12
namespace Go.Proofs.Ytmolbbebglfhmaa.A
open Go.RowKit Go.Proofs.YtmolbbebglfhmaaW.PrintWords Go.Proofs.YtmolbbebglfhmaaW.PrintLast Go.Proofs.YtmolbbebglfhmaaW.PrintMore
attribute [local go_sem] max2_int min2_int max_two min_two max_three min_three max_four min_four
set_option linter.unusedVariables false
set_option linter.unusedSimpArgs false
def L12_0 : Array Bool := #[false, false, false, false, false, false, false, false, false, false, false, false]
def L12_1 : Array Bool := #[true, false, false, false, false, false, false, false, false, false, false, false]
def L12_2 : Array Bool := #[true, false, true, false, false, false, false, false, false, false, false, false]
def L12_3 : Array Bool := #[true, false, true, false, false, true, false, false, false, false, false, false]
def L12_4 : Array Bool := #[true, false, true, false, false, true, false, true, false, false, false, false]
def L12_5 : Array Bool := #[true, true, true, false, false, true, false, true, false, false, false, false]
def L12_6 : Array Bool := #[true, true, true, true, false, true, false, true, false, false, false, false]
def L12_7 : Array Bool := #[true, true, true, true, true, true, false, true, false, false, false, false]
def L12_8 : Array Bool := #[true, true, true, true, true, true, true, true, false, false, false, false]
def L12_9 : Array Bool := #[true, true, true, true, true, true, true, true, true, false, false, false]
def L12_10 : Array Bool := #[true, true, true, true, true, true, true, true, true, true, false, false]
def L12_11 : Array Bool := #[true, true, true, true, true, true, true, true, true, true, true, false]
def L12_12 : Array Bool := #[true, true, true, true, true, true, true, true, true, true, true, true]
mutual
def fullerref18_Same.j0 : Nat → Bool → List (List (S74)) → Int → List Int → List (List (S74)) → Int → List Int → Option (Bool)
 | 0, _, _, _, _, _, _, _ => none
 | k + 1, x28, x379000, x379001, x379002, x380000, x380001, x380002 => if x28 = true then (some false) else (fullerref18_Same.l0 k 0 x379000 x379001 x379002 x380000 x380001 x380002)
def fullerref18_Same.l0 : Nat → Int → List (List (S74)) → Int → List Int → List (List (S74)) → Int → List Int → Option (Bool)
 | 0, _, _, _, _, _, _, _ => none
 | k + 1, x5, x379000, x379001, x379002, x380000, x380001, x380002 => if x5 < (x379000.length : Int) then (if 0 ≤ x5 then (if x5 < (x380000.length : Int) then ((fullerref17_Same.f k (rd_L4 x379000 x5) (rd_L4 x380000 x5)).bind fun t383 => (if t383 = true then (fullerref18_Same.l0 k (wrap64 (x5 + 1)) x379000 x379001 x379002 x380000 x380001 x380002) else (some false))) else (none)) else (none)) else (some true)
end
def fullerref18_Same.f (k : Nat) (l0_0 : List (List (S74))) (a0_1 : Int) (l0_2 : List Int) (l1_0 : List (List (S74))) (a1_1 : Int) (l1_2 : List Int) : Option (Bool) := if (l0_0.length : Int) = (l1_0.length : Int) then (if a0_1 = a1_1 then ((fullerref02_Same.f k l0_2 l1_2).bind fun t380 => (fullerref18_Same.j0 k (!t380) l0_0 a0_1 l0_2 l1_0 a1_1 l1_2)) else (fullerref18_Same.j0 k true l0_0 a0_1 l0_2 l1_0 a1_1 l1_2)) else (fullerref18_Same.j0 k true l0_0 a0_1 l0_2 l1_0 a1_1 l1_2)
def fullerref18_Same.T6 : Bool × List (List Nat × List Nat) := (true, [([], []), ([0], [0]), ([], []), ([1, 2], [1, 2]), ([3], [3]), ([], []), ([5], [5]), ([], []), ([6, 7], [6, 7]), ([8], [8]), ([4, 9], [4, 9]), ([10, 10, 0, 1, 2, 3, 4, 5, 6, 7, 8, 9, 10], [10])])
def fullerref18_Same.B6 : List Nat := [0, 1, 0, 7, 15, 0, 32, 0, 224, 480, 1023, 2047]
theorem fullerref18_Same.tab6 : rtab .any (opsOf Try.f12 6) = fullerref18_Same.T6 := by kernel_rfl
theorem fullerref18_Same.bits6 : waitsOk fullerref18_Same.T6.2 fullerref18_Same.B6 = true := by kernel_rfl
set_option maxHeartbeats 8000000 in
set_option maxRecDepth 100000 in
theorem fullerref18_Same.calls (k : Nat) (A0_0 : Option Addr) (c0_0 : Nat) (l0_0 : List (List (S74))) (a0_1 : Int) (A0_2 : Option Addr) (c0_2 : Nat) (l0_2 : List Int) (A1_0 : Option Addr) (c1_0 : Nat) (l1_0 : List (List (S74))) (a1_1 : Int) (A1_2 : Option Addr) (c1_2 : Nat) (l1_2 : List Int) (r : Bool) (w : World) (hr0_0 : Kd.C (Kd.slice 74 k74) w A0_0 l0_0.length l0_0) (hc0_0 : l0_0.length ≤ c0_0) (hr0_2 : Kd.C (Kd.int .i64) w A0_2 l0_2.length l0_2) (hc0_2 : l0_2.length ≤ c0_2) (hr1_0 : Kd.C (Kd.slice 74 k74) w A1_0 l1_0.length l1_0) (hc1_0 : l1_0.length ≤ c1_0) (hr1_2 : Kd.C (Kd.int .i64) w A1_2 l1_2.length l1_2) (hc1_2 : l1_2.length ≤ c1_2) (h : fullerref18_Same.f k l0_0 a0_1 l0_2 l1_0 a1_1 l1_2 = some r) :
  Calls Try.prog 12 #[.agg #[.slice A0_0 l0_0.length c0_0, .int .i64 a0_1, .slice A0_2 l0_2.length c0_2], .agg #[.slice A1_0 l1_0.length c1_0, .int .i64 a1_1, .slice A1_2 l1_2.length c1_2]] w fun e w' => e = .returned (.bool r) ∧ Below w.heap.size w w' := by
 have hu25 := Try.underlying25
 have HR0_0 := Aside0.mk hr0_0
 have HC0_0 := Aside0.mk hc0_0
 clear hr0_0 hc0_0
 have HR0_2 := Aside0.mk hr0_2
 have HC0_2 := Aside0.mk hc0_2
 clear hr0_2 hc0_2
 have HR1_0 := Aside0.mk hr1_0
 have HC1_0 := Aside0.mk hc1_0
 clear hr1_0 hc1_0
 have HR1_2 := Aside0.mk hr1_2
 have HC1_2 := Aside0.mk hc1_2
 clear hr1_2 hc1_2
 have HB := Aside0.mk (Below.refl w.heap.size w)
 have H : (if (l0_0.length : Int) = (l1_0.length : Int) then (if a0_1 = a1_1 then ((fullerref02_Same.f k l0_2 l1_2).bind fun t380 => (fullerref18_Same.j0 k (!t380) l0_0 a0_1 l0_2 l1_0 a1_1 l1_2)) else (fullerref18_Same.j0 k true l0_0 a0_1 l0_2 l1_0 a1_1 l1_2)) else (fullerref18_Same.j0 k true l0_0 a0_1 l0_2 l1_0 a1_1 l1_2)) = some r := h
 clear h
 have HC3 := Aside0.mk H
 clear H
 go_enter Try.func12, Try.ntmps12
 go_upto_region 1 with (first | ((with_reducible refine gate_dst (N := 2) rfl ?_); refine box_event ?hg (N := 2) ?hd (cs := #[.slice A0_0 l0_0.length c0_0, .int .i64 a0_1, .slice A0_2 l0_2.length c0_2]) (t := 25) ?hr ?_; (case hd => rfl); (case hg => rfl); (case hr => first | (go_simp; done) | (go_simp; rfl)); intro gb378 hg w4 hbox hb; have BK378 := Aside0.mk (hbox); have GW378 := Aside0.mk ((by rw [hg]; exact (below_size (bq0_ HB.out)) : w.heap.size ≤ gb378)); have GE378 := Aside0.mk ((by rw [hg]; exact (below_size (bq0_ HB.out)) : w.heap.size ≤ gb378)); replace HB := Aside0.mk (below_step (bq0_ HB.out) hb); clear hb hbox hg) | ((with_reducible refine gate_dst (N := 3) rfl ?_); refine box_event ?hg (N := 3) ?hd (cs := #[.slice A1_0 l1_0.length c1_0, .int .i64 a1_1, .slice A1_2 l1_2.length c1_2]) (t := 25) ?hr ?_; (case hd => rfl); (case hg => rfl); (case hr => first | (go_simp; done) | (go_simp; rfl)); intro gb379 hg w5 hbox hb; have BK379 := Aside0.mk (hbox); have GW379 := Aside0.mk ((by rw [hg]; exact (below_size (bq1_ HB.out GE378.out)) : w.heap.size ≤ gb379)); have GE379 := Aside0.mk ((by rw [hg]; exact (below_size (bq1_ HB.out GE378.out)) : w.heap.size ≤ gb379)); have NB378_379 := Aside0.mk ((by rw [hg]; exact Nat.ne_of_lt (blk_lt (g := gb378) (o := .cells #[.slice A0_0 l0_0.length c0_0, .int .i64 a0_1, .slice A0_2 l0_2.length c0_2] 25 (0, 0)) (mvK_ BK378.out)) : gb378 ≠ gb379)); have NB379_378 := Aside0.mk ((by rw [hg]; exact Nat.ne_of_gt (blk_lt (g := gb378) (o := .cells #[.slice A0_0 l0_0.length c0_0, .int .i64 a0_1, .slice A0_2 l0_2.length c0_2] 25 (0, 0)) (mvK_ BK378.out)) : gb379 ≠ gb378)); replace BK378 := mvB_ BK378.out hb; replace HB := Aside0.mk (below_step (bq1_ HB.out GE378.out) hb); clear hb hbox hg))
 (try simp only [Act.put, sA_, sB_, sC_])
 go_cut [28] (fun v28 wc => ∃ (kq : Nat) (x28_2 : Bool), v28 = .bool x28_2 ∧ Aside0 (fullerref18_Same.j0 kq x28_2 l0_0 a0_1 l0_2 l1_0 a1_1 l1_2 = some r) ∧ Aside0 (kq ≤ k) ∧ Aside0 (wc.heap[gb378]? = some (.cells #[(.slice A0_0 l0_0.length c0_0), .int .i64 a0_1, (.slice A0_2 l0_2.length c0_2)] 25 (0, 0))) ∧ Aside0 (wc.heap[gb379]? = some (.cells #[(.slice A1_0 l1_0.length c1_0), .int .i64 a1_1, (.slice A1_2 l1_2.length c1_2)] 25 (0, 0))) ∧ Aside0 (Below w.heap.size w wc))
 case first =>
  have H := HC3.out
  clear HC3
  by_cases c6 : (l0_0.length : Int) = (l1_0.length : Int)
  ·rw [if_pos c6] at H
   have c6b0 : ((l0_0.length : Int) == (l1_0.length : Int)) = true := beq_iff_eq.mpr c6
   have c6b1 : ((l0_0.length : Int) != (l1_0.length : Int)) = false := bne_eq_false_iff_eq.mpr c6
   have c6b2 : (l0_0.length == l1_0.length) = true := by first | simpa using c6 | (simp at c6 ⊢; omega)
   clear c6
   (first | rw [c6b0] | (simp only [i64_w, i32_w]; rw [c6b0]) | rw [c6b1] | skip)
   by_cases c7 : a0_1 = a1_1
   ·rw [if_pos c7] at H
    obtain ⟨c7b0, c7b1⟩ := eqT_ c7
    clear c7
    replace H := Option.bind_eq_some_iff.mp H
    obtain ⟨t380, A80, H⟩ := H
    replace H : (fullerref18_Same.j0 k (!t380) l0_0 a0_1 l0_2 l1_0 a1_1 l1_2) = some r := H
    have A8 := Aside0.mk A80
    clear A80
    have H' := Aside0.mk H
    clear H
    have hnb9 := NB378_379.out
    have hnc9 := NB379_378.out
    have hcz10_0 := cz0_ BK378.out
    have hcz10_1 := cz1_ BK378.out
    have hcz10_2 := cz2_ BK378.out
    have hfz10_0 := blk_frozen BK378.out 0
    have hfz10_1 := blk_frozen BK378.out 1
    have hfz10_2 := blk_frozen BK378.out 2
    have hcz11_0 := cz0_ BK379.out
    have hcz11_1 := cz1_ BK379.out
    have hcz11_2 := cz2_ BK379.out
    have hfz11_0 := blk_frozen BK379.out 0
    have hfz11_1 := blk_frozen BK379.out 1
    have hfz11_2 := blk_frozen BK379.out 2
    go_wp2_with (first | (go_at_call 21; (with_reducible refine (fullerref02_Same.calls k _ _ l0_2 _ _ l1_2 t380 _ ?side1 ?side2 ?side3 ?side4 A8.out).mono ?_); (case side1 => exact mvC_ ((Kd.C_below HR0_2.out HB.out))); (case side2 => exact HC0_2.out); (case side3 => exact mvC_ ((Kd.C_below HR1_2.out HB.out))); (case side4 => exact HC1_2.out); rintro e w' ⟨rfl, ⟨nd, rfl⟩⟩))
    go_meet
    case rel => exact ⟨_, (!t380), (by first | rfl | (simp; done) | (simp [*]; done)), H', ⟨by first | omega | exact Nat.le_refl _⟩, ⟨by (with_reducible repeat (first | refine blk_drewN ?_ _ | refine blk_drew ?_ | refine blk_alloc ?_ _)); exact BK378.out⟩, ⟨by (with_reducible repeat (first | refine blk_drewN ?_ _ | refine blk_drew ?_ | refine blk_alloc ?_ _)); exact BK379.out⟩, ⟨bq2_ HB.out GE378.out GE379.out⟩⟩
   ·rw [if_neg c7] at H
    have c7b0 : (a0_1 == a1_1) = false := beq_eq_false_iff_ne.mpr c7
    have c7b1 : (a0_1 != a1_1) = true := bne_iff_ne.mpr c7
    have H' := Aside0.mk H
    clear H
    have hnb12 := NB378_379.out
    have hnc12 := NB379_378.out
    have hcz13_0 := cz0_ BK378.out
    have hcz13_1 := cz1_ BK378.out
    have hcz13_2 := cz2_ BK378.out
    have hfz13_0 := blk_frozen BK378.out 0
    have hfz13_1 := blk_frozen BK378.out 1
    have hfz13_2 := blk_frozen BK378.out 2
    have hcz14_0 := cz0_ BK379.out
    have hcz14_1 := cz1_ BK379.out
    have hcz14_2 := cz2_ BK379.out
    have hfz14_0 := blk_frozen BK379.out 0
    have hfz14_1 := blk_frozen BK379.out 1
    have hfz14_2 := blk_frozen BK379.out 2
    go_wp2
    go_meet
    case rel => exact ⟨_, (true), (by first | rfl | (simp; done) | (simp [*]; done)), H', ⟨by first | omega | exact Nat.le_refl _⟩, ⟨by (with_reducible repeat (first | refine blk_drewN ?_ _ | refine blk_drew ?_ | refine blk_alloc ?_ _)); exact BK378.out⟩, ⟨by (with_reducible repeat (first | refine blk_drewN ?_ _ | refine blk_drew ?_ | refine blk_alloc ?_ _)); exact BK379.out⟩, ⟨bq2_ HB.out GE378.out GE379.out⟩⟩
  ·rw [if_neg c6] at H
   have c6b0 : ((l0_0.length : Int) == (l1_0.length : Int)) = false := beq_eq_false_iff_ne.mpr c6
   have c6b1 : ((l0_0.length : Int) != (l1_0.length : Int)) = true := bne_iff_ne.mpr c6
   have c6b2 : (l0_0.length == l1_0.length) = false := by first | simpa using c6 | (simp at c6 ⊢; omega)
   (first | rw [c6b0] | (simp only [i64_w, i32_w]; rw [c6b0]) | rw [c6b1] | skip)
   have H' := Aside0.mk H
   clear H
   have hnb15 := NB378_379.out
   have hnc15 := NB379_378.out
   have hcz16_0 := cz0_ BK378.out
   have hcz16_1 := cz1_ BK378.out
   have hcz16_2 := cz2_ BK378.out
   have hfz16_0 := blk_frozen BK378.out 0
   have hfz16_1 := blk_frozen BK378.out 1
   have hfz16_2 := blk_frozen BK378.out 2
   have hcz17_0 := cz0_ BK379.out
   have hcz17_1 := cz1_ BK379.out
   have hcz17_2 := cz2_ BK379.out
   have hfz17_0 := blk_frozen BK379.out 0
   have hfz17_1 := blk_frozen BK379.out 1
   have hfz17_2 := blk_frozen BK379.out 2
   go_wp2
   go_meet
   case rel => exact ⟨_, (true), (by first | rfl | (simp; done) | (simp [*]; done)), H', ⟨by first | omega | exact Nat.le_refl _⟩, ⟨by (with_reducible repeat (first | refine blk_drewN ?_ _ | refine blk_drew ?_ | refine blk_alloc ?_ _)); exact BK378.out⟩, ⟨by (with_reducible repeat (first | refine blk_drewN ?_ _ | refine blk_drew ?_ | refine blk_alloc ?_ _)); exact BK379.out⟩, ⟨bq2_ HB.out GE378.out GE379.out⟩⟩
 case rest =>
  clear HC3
  try clear c1
  try clear p2
  try clear c6
  try clear c6b0
  try clear c6b1
  try clear c6b2
  try clear c7
  try clear c7b0
  try clear c7b1
  try clear c9
  try clear c12
  try clear c15
  try clear hcz10_0
  try clear hcz10_1
  try clear hcz10_2
  try clear hcz11_0
  try clear hcz11_1
  try clear hcz11_2
  try clear hcz13_0
  try clear hcz13_1
  try clear hcz13_2
  try clear hcz14_0
  try clear hcz14_1
  try clear hcz14_2
  try clear hcz16_0
  try clear hcz16_1
  try clear hcz16_2
  try clear hcz17_0
  try clear hcz17_1
  try clear hcz17_2
  try clear hfz10_0
  try clear hfz10_1
  try clear hfz10_2
  try clear hfz11_0
  try clear hfz11_1
  try clear hfz11_2
  try clear hfz13_0
  try clear hfz13_1
  try clear hfz13_2
  try clear hfz14_0
  try clear hfz14_1
  try clear hfz14_2
  try clear hfz16_0
  try clear hfz16_1
  try clear hfz16_2
  try clear hfz17_0
  try clear hfz17_1
  try clear hfz17_2
  obtain ⟨kq, x28_2, rfl, HA, HJ2, BK378, BK379, HB⟩ := hcut
  cases kq with
  | zero => exact absurd HA.out (by simp [fullerref18_Same.j0])
  | succ kj2 =>
   have H := HA.out
   clear HA
   simp only [fullerref18_Same.j0] at H
   by_cases c18 : x28_2 = true
   ·subst c18
    have H1 : (some false) = some r := by rw [if_pos rfl] at H; exact H
    clear H
    have H := H1
    clear H1
    obtain rfl := Option.some.inj H
    go_wp2
    go_ret
    exact ⟨by first | rfl | (simp <;> rfl) | (simp [*] <;> rfl), bq2_ HB.out GE378.out GE379.out⟩
   ·replace c18 := Bool.eq_false_iff.mpr c18
    subst c18
    have H1 : (fullerref18_Same.l0 kj2 0 l0_0 a0_1 l0_2 l1_0 a1_1 l1_2) = some r := by rw [if_neg (show ¬ (false = true) by decide)] at H; exact H
    clear H
    have H := H1
    clear H1
    have H' := Aside0.mk H
    clear H
    go_wp2
    go_loopg [5] kj2 (fun kq v5 w' => ∃ (x5_2 : Int), v5 = .int .i64 x5_2 ∧ Aside0 (fullerref18_Same.l0 kq x5_2 l0_0 a0_1 l0_2 l1_0 a1_1 l1_2 = some r) ∧ Aside0 (kq ≤ kj2) ∧ Aside0 (w'.heap[gb378]? = some (.cells #[(.slice A0_0 l0_0.length c0_0), .int .i64 a0_1, (.slice A0_2 l0_2.length c0_2)] 25 (0, 0))) ∧ Aside0 (w'.heap[gb379]? = some (.cells #[(.slice A1_0 l1_0.length c1_0), .int .i64 a1_1, (.slice A1_2 l1_2.length c1_2)] 25 (0, 0))) ∧ Aside0 (Below w.heap.size w w'))
    case atStart => exact ⟨(0), (by first | rfl | (simp; done) | (simp [*]; done)), H', ⟨Nat.le_refl _⟩, ⟨by (with_reducible repeat (first | refine blk_drewN ?_ _ | refine blk_drew ?_ | refine blk_alloc ?_ _)); exact BK378.out⟩, ⟨by (with_reducible repeat (first | refine blk_drewN ?_ _ | refine blk_drew ?_ | refine blk_alloc ?_ _)); exact BK379.out⟩, ⟨bq2_ HB.out GE378.out GE379.out⟩⟩
    case round =>
     clear H'
     try clear c1
     try clear p2
     try clear c6
     try clear c6b0
     try clear c6b1
     try clear c6b2
     try clear c7
     try clear c7b0
     try clear c7b1
     try clear c9
     try clear c12
     try clear c15
     try clear c18
     try clear hcz10_0
     try clear hcz10_1
     try clear hcz10_2
     try clear hcz11_0
     try clear hcz11_1
     try clear hcz11_2
     try clear hcz13_0
     try clear hcz13_1
     try clear hcz13_2
     try clear hcz14_0
     try clear hcz14_1
     try clear hcz14_2
     try clear hcz16_0
     try clear hcz16_1
     try clear hcz16_2
     try clear hcz17_0
     try clear hcz17_1
     try clear hcz17_2
     try clear hfz10_0
     try clear hfz10_1
     try clear hfz10_2
     try clear hfz11_0
     try clear hfz11_1
     try clear hfz11_2
     try clear hfz13_0
     try clear hfz13_1
     try clear hfz13_2
     try clear hfz14_0
     try clear hfz14_1
     try clear hfz14_2
     try clear hfz16_0
     try clear hfz16_1
     try clear hfz16_2
     try clear hfz17_0
     try clear hfz17_1
     try clear hfz17_2
     try clear p2
     obtain ⟨x5_2, rfl, HA, HK2, BK378, BK379, HB⟩ := hrel
     cases gk with
     | zero => exact absurd HA.out (by simp [fullerref18_Same.l0])
     | succ k2 =>
      have H := HA.out
      clear HA
      simp only [fullerref18_Same.l0] at H
      by_cases c19 : x5_2 < (l0_0.length : Int)
      ·rw [if_pos c19] at H
       have c19b0 : decide (x5_2 < (l0_0.length : Int)) = true := decide_eq_true c19
       clear c19
       by_cases c20 : 0 ≤ x5_2
       ·rw [if_pos c20] at H
        have c20b0 : decide (0 ≤ x5_2) = true := decide_eq_true c20
        clear c20
        by_cases c21 : x5_2 < (l1_0.length : Int)
        ·rw [if_pos c21] at H
         have c21b0 : decide (x5_2 < (l1_0.length : Int)) = true := decide_eq_true c21
         clear c21
         replace H := Option.bind_eq_some_iff.mp H
         obtain ⟨t383, A220, H⟩ := H
         replace H : (if t383 = true then (fullerref18_Same.l0 k2 (wrap64 (x5_2 + 1)) l0_0 a0_1 l0_2 l1_0 a1_1 l1_2) else (some false)) = some r := H
         have A22 := Aside0.mk A220
         clear A220
         by_cases c23 : t383 = true
         ·subst c23
          have H1 : (fullerref18_Same.l0 k2 (wrap64 (x5_2 + 1)) l0_0 a0_1 l0_2 l1_0 a1_1 l1_2) = some r := by rw [if_pos rfl] at H; exact H
          clear H
          have H := H1
          clear H1
          have H' := Aside0.mk H
          clear H
          have hnb24 := NB378_379.out
          have hnc24 := NB379_378.out
          have hcz25_0 := cz0_ BK378.out
          have hcz25_1 := cz1_ BK378.out
          have hcz25_2 := cz2_ BK378.out
          have hfz25_0 := blk_frozen BK378.out 0
          have hfz25_1 := blk_frozen BK378.out 1
          have hfz25_2 := blk_frozen BK378.out 2
          try go_wp2
          replace BK378 := Aside0.mk (blk_drew BK378.out)
          replace BK379 := Aside0.mk (blk_drew BK379.out)
          replace HB := Aside0.mk (below_drew1 HB.out)
          have p381 : 0 ≤ (x5_2 : Int) := od_
          have q381 : x5_2 < (l0_0.length : Int) := od_
          obtain ⟨ad381, A381_0, c381_0, e381, hx381_0, hl381_0, hi381_0⟩ := at_L4 HR0_0.out x5_2 p381 q381
          have hw381_0 := hx381_0
          cases e381
          replace hx381_0 := hb_ HB hx381_0
          have HR381_0 := Aside0.mk hi381_0
          have HC381_0 := Aside0.mk hl381_0
          clear hi381_0 hl381_0
          replace p381 := eq_true p381
          replace q381 := eq_true q381
          have p382 : 0 ≤ (x5_2 : Int) := od_
          have q382 : x5_2 < (l1_0.length : Int) := od_
          obtain ⟨ad382, A382_0, c382_0, e382, hx382_0, hl382_0, hi382_0⟩ := at_L4 HR1_0.out x5_2 p382 q382
          have hw382_0 := hx382_0
          cases e382
          replace hx382_0 := hb_ HB hx382_0
          have HR382_0 := Aside0.mk hi382_0
          have HC382_0 := Aside0.mk hl382_0
          clear hi382_0 hl382_0
          replace p382 := eq_true p382
          replace q382 := eq_true q382
          refine start_ (n := 12) (S := fun w' => w'.cell? ⟨gb378, 0, none⟩ = some (.slice (some ad381) l0_0.length c0_0) ∧ w'.cell? ⟨gb378, 1, none⟩ = some (.int .i64 a0_1) ∧ w'.cell? ⟨gb378, 2, none⟩ = some (.slice A0_2 l0_2.length c0_2) ∧ w'.cell? ⟨gb379, 0, none⟩ = some (.slice (some ad382) l1_0.length c1_0) ∧ w'.cell? ⟨gb379, 1, none⟩ = some (.int .i64 a1_1) ∧ w'.cell? ⟨gb379, 2, none⟩ = some (.slice A1_2 l1_2.length c1_2) ∧ w'.cell? (ad381.add (x5_2).toNat) = some (.slice A381_0 (rd_L4 l0_0 x5_2).length c381_0) ∧ w'.cell? (ad382.add (x5_2).toNat) = some (.slice A382_0 (rd_L4 l1_0 x5_2).length c382_0)) (ds := []) L12_0 (by kernel_rfl) rfl rfl ⟨(blk_cell BK378.out 0).trans rfl, (blk_cell BK378.out 1).trans rfl, (blk_cell BK378.out 2).trans rfl, (blk_cell BK379.out 0).trans rfl, (blk_cell BK379.out 1).trans rfl, (blk_cell BK379.out 2).trans rfl, ((HB.out.cell (World.block_lt_of_cell? w _ hw381_0)).trans hw381_0), ((HB.out.cell (World.block_lt_of_cell? w _ hw382_0)).trans hw382_0)⟩ (fun hHeld => ?_); refine with_tabW fullerref18_Same.tab6 fullerref18_Same.bits6 (fun HT_ HW_ => ?_)
          generalize wr.drew = w26 at BK378 BK379 HB HR381_0 HR382_0 hx381_0 hx382_0 hHeld ⊢
          refine pu_ 0 (some 36) L12_1 HT_ ?_
          refine pu_ 2 (some 38) L12_2 HT_ ?_
          refine pu_ 5 (some 41) L12_3 HT_ ?_
          refine pu_ 7 (some 43) L12_4 HT_ ?_
          refine ta_ 1 (some 37) L12_5 HT_ HW_ hHeld ?_ (hy := by rintro w' ⟨s0, s1, s2, s3, s4, s5, s6, s7⟩; go_simp; with_reducible rfl)
          refine pu_ 3 (some 39) L12_6 HT_ ?_
          refine ta_ 4 (some 40) L12_7 HT_ HW_ hHeld ?_ (hy := by rintro w' ⟨s0, s1, s2, s3, s4, s5, s6, s7⟩; go_simp; with_reducible rfl)
          refine ta_ 6 (some 42) L12_8 HT_ HW_ hHeld ?_ (hy := by rintro w' ⟨s0, s1, s2, s3, s4, s5, s6, s7⟩; go_simp; with_reducible rfl)
          refine pu_ 8 (some 44) L12_9 HT_ ?_
          refine ta_ 9 (some 45) L12_10 HT_ HW_ hHeld ?_ (hy := by rintro w' ⟨s0, s1, s2, s3, s4, s5, s6, s7⟩; go_simp; with_reducible rfl)
          refine one_ (i := 10) (N := some 46) L12_11 rfl rfl (one_of HT_.out (by kernel_rfl)) (by decide) (fun K hK => ?_)
          refine goes_ Try.func36 (by kernel_rfl) rfl #[.slice A381_0 (rd_L4 l0_0 x5_2).length c381_0, .slice A382_0 (rd_L4 l1_0 x5_2).length c382_0] (by rfl) rfl rfl (by (try simp only [List.map_toArray, List.map_cons, List.map_nil]); first | done | rfl | (simp only [List.length_drop, List.length_take]; rfl)) ?_
          with_reducible refine (fullerref17_Same.calls k2 _ _ (rd_L4 l0_0 x5_2) _ _ (rd_L4 l1_0 x5_2) true _ ?side1 ?side2 ?side3 ?side4 A22.out).mono ?_
          (case side1 => exact mvC_ ((Kd.C_below HR381_0.out HB.out)))
          (case side2 => exact HC381_0.out)
          (case side3 => exact mvC_ ((Kd.C_below HR382_0.out HB.out)))
          (case side4 => exact HC382_0.out)
          rintro e w27 ⟨rfl, hb⟩
          refine ⟨_, rfl, ?_⟩
          replace BK378 := mvB_ BK378.out hb
          replace BK379 := mvB_ BK379.out hb
          replace HB := Aside0.mk (below_step (bq2_ HB.out GE378.out GE379.out) hb)
          (try clear hb)
          (try clear hb2)
          (try clear hk)
          (try clear hi)
          refine hK.out _ _ ⟨(blk_cell BK378.out 0).trans rfl, (blk_cell BK378.out 1).trans rfl, (blk_cell BK378.out 2).trans rfl, (blk_cell BK379.out 0).trans rfl, (blk_cell BK379.out 1).trans rfl, (blk_cell BK379.out 2).trans rfl, ((HB.out.cell (World.block_lt_of_cell? w _ hw381_0)).trans hw381_0), ((HB.out.cell (World.block_lt_of_cell? w _ hw382_0)).trans hw382_0)⟩ (fun hHeld => ?_)
          clear hK K
          refine norm_ (a' := ?_) ?_ ?_
          rotate_left
          ·show Act.put _ (some 46) _ = _
           simp only [Act.put, sA_, sB_, sC_, i64_w, i32_w]
           rfl
          refine pu_ 11 (some 6) L12_12 HT_ ?_
          refine done_ (done_of HT_.out (by kernel_rfl)) ?_
          try go_wp2
          go_roundg k2
          case measure => have := HJ2.out; have := HK2.out; omega
          case rel => exact ⟨(wrap64 (x5_2 + 1)), (by first | rfl | (simp; done) | (simp [*]; done)), H', ⟨by have := HJ2.out; have := HK2.out; omega⟩, ⟨by (with_reducible repeat (first | refine blk_drewN ?_ _ | refine blk_drew ?_ | refine blk_alloc ?_ _)); exact BK378.out⟩, ⟨by (with_reducible repeat (first | refine blk_drewN ?_ _ | refine blk_drew ?_ | refine blk_alloc ?_ _)); exact BK379.out⟩, ⟨bq2_ HB.out GE378.out GE379.out⟩⟩
         ·replace c23 := Bool.eq_false_iff.mpr c23
          subst c23
          have H1 : (some false) = some r := by rw [if_neg (show ¬ (false = true) by decide)] at H; exact H
          clear H
          have H := H1
          clear H1
          obtain rfl := Option.some.inj H
          have hnb28 := NB378_379.out
          have hnc28 := NB379_378.out
          have hcz29_0 := cz0_ BK378.out
          have hcz29_1 := cz1_ BK378.out
          have hcz29_2 := cz2_ BK378.out
          have hfz29_0 := blk_frozen BK378.out 0
          have hfz29_1 := blk_frozen BK378.out 1
          have hfz29_2 := blk_frozen BK378.out 2
          try go_wp2
          replace BK378 := Aside0.mk (blk_drew BK378.out)
          replace BK379 := Aside0.mk (blk_drew BK379.out)
          replace HB := Aside0.mk (below_drew1 HB.out)
          have p381 : 0 ≤ (x5_2 : Int) := od_
          have q381 : x5_2 < (l0_0.length : Int) := od_
          obtain ⟨ad381, A381_0, c381_0, e381, hx381_0, hl381_0, hi381_0⟩ := at_L4 HR0_0.out x5_2 p381 q381
          have hw381_0 := hx381_0
          cases e381
          replace hx381_0 := hb_ HB hx381_0
          have HR381_0 := Aside0.mk hi381_0
          have HC381_0 := Aside0.mk hl381_0
          clear hi381_0 hl381_0
          replace p381 := eq_true p381
          replace q381 := eq_true q381
          have p382 : 0 ≤ (x5_2 : Int) := od_
          have q382 : x5_2 < (l1_0.length : Int) := od_
          obtain ⟨ad382, A382_0, c382_0, e382, hx382_0, hl382_0, hi382_0⟩ := at_L4 HR1_0.out x5_2 p382 q382
          have hw382_0 := hx382_0
          cases e382
          replace hx382_0 := hb_ HB hx382_0
          have HR382_0 := Aside0.mk hi382_0
          have HC382_0 := Aside0.mk hl382_0
          clear hi382_0 hl382_0
          replace p382 := eq_true p382
          replace q382 := eq_true q382
          refine start_ (n := 12) (S := fun w' => w'.cell? ⟨gb378, 0, none⟩ = some (.slice (some ad381) l0_0.length c0_0) ∧ w'.cell? ⟨gb378, 1, none⟩ = some (.int .i64 a0_1) ∧ w'.cell? ⟨gb378, 2, none⟩ = some (.slice A0_2 l0_2.length c0_2) ∧ w'.cell? ⟨gb379, 0, none⟩ = some (.slice (some ad382) l1_0.length c1_0) ∧ w'.cell? ⟨gb379, 1, none⟩ = some (.int .i64 a1_1) ∧ w'.cell? ⟨gb379, 2, none⟩ = some (.slice A1_2 l1_2.length c1_2) ∧ w'.cell? (ad381.add (x5_2).toNat) = some (.slice A381_0 (rd_L4 l0_0 x5_2).length c381_0) ∧ w'.cell? (ad382.add (x5_2).toNat) = some (.slice A382_0 (rd_L4 l1_0 x5_2).length c382_0)) (ds := []) L12_0 (by kernel_rfl) rfl rfl ⟨(blk_cell BK378.out 0).trans rfl, (blk_cell BK378.out 1).trans rfl, (blk_cell BK378.out 2).trans rfl, (blk_cell BK379.out 0).trans rfl, (blk_cell BK379.out 1).trans rfl, (blk_cell BK379.out 2).trans rfl, ((HB.out.cell (World.block_lt_of_cell? w _ hw381_0)).trans hw381_0), ((HB.out.cell (World.block_lt_of_cell? w _ hw382_0)).trans hw382_0)⟩ (fun hHeld => ?_); refine with_tabW fullerref18_Same.tab6 fullerref18_Same.bits6 (fun HT_ HW_ => ?_)
          generalize wr.drew = w30 at BK378 BK379 HB HR381_0 HR382_0 hx381_0 hx382_0 hHeld ⊢
          refine pu_ 0 (some 36) L12_1 HT_ ?_
          refine pu_ 2 (some 38) L12_2 HT_ ?_
          refine pu_ 5 (some 41) L12_3 HT_ ?_
          refine pu_ 7 (some 43) L12_4 HT_ ?_
          refine ta_ 1 (some 37) L12_5 HT_ HW_ hHeld ?_ (hy := by rintro w' ⟨s0, s1, s2, s3, s4, s5, s6, s7⟩; go_simp; with_reducible rfl)
          refine pu_ 3 (some 39) L12_6 HT_ ?_
          refine ta_ 4 (some 40) L12_7 HT_ HW_ hHeld ?_ (hy := by rintro w' ⟨s0, s1, s2, s3, s4, s5, s6, s7⟩; go_simp; with_reducible rfl)
          refine ta_ 6 (some 42) L12_8 HT_ HW_ hHeld ?_ (hy := by rintro w' ⟨s0, s1, s2, s3, s4, s5, s6, s7⟩; go_simp; with_reducible rfl)
          refine pu_ 8 (some 44) L12_9 HT_ ?_
          refine ta_ 9 (some 45) L12_10 HT_ HW_ hHeld ?_ (hy := by rintro w' ⟨s0, s1, s2, s3, s4, s5, s6, s7⟩; go_simp; with_reducible rfl)
          refine one_ (i := 10) (N := some 46) L12_11 rfl rfl (one_of HT_.out (by kernel_rfl)) (by decide) (fun K hK => ?_)
          refine goes_ Try.func36 (by kernel_rfl) rfl #[.slice A381_0 (rd_L4 l0_0 x5_2).length c381_0, .slice A382_0 (rd_L4 l1_0 x5_2).length c382_0] (by rfl) rfl rfl (by (try simp only [List.map_toArray, List.map_cons, List.map_nil]); first | done | rfl | (simp only [List.length_drop, List.length_take]; rfl)) ?_
          with_reducible refine (fullerref17_Same.calls k2 _ _ (rd_L4 l0_0 x5_2) _ _ (rd_L4 l1_0 x5_2) false _ ?side1 ?side2 ?side3 ?side4 A22.out).mono ?_
          (case side1 => exact mvC_ ((Kd.C_below HR381_0.out HB.out)))
          (case side2 => exact HC381_0.out)
          (case side3 => exact mvC_ ((Kd.C_below HR382_0.out HB.out)))
          (case side4 => exact HC382_0.out)
          rintro e w31 ⟨rfl, hb⟩
          refine ⟨_, rfl, ?_⟩
          replace BK378 := mvB_ BK378.out hb
          replace BK379 := mvB_ BK379.out hb
          replace HB := Aside0.mk (below_step (bq2_ HB.out GE378.out GE379.out) hb)
          (try clear hb)
          (try clear hb2)
          (try clear hk)
          (try clear hi)
          refine hK.out _ _ ⟨(blk_cell BK378.out 0).trans rfl, (blk_cell BK378.out 1).trans rfl, (blk_cell BK378.out 2).trans rfl, (blk_cell BK379.out 0).trans rfl, (blk_cell BK379.out 1).trans rfl, (blk_cell BK379.out 2).trans rfl, ((HB.out.cell (World.block_lt_of_cell? w _ hw381_0)).trans hw381_0), ((HB.out.cell (World.block_lt_of_cell? w _ hw382_0)).trans hw382_0)⟩ (fun hHeld => ?_)
          clear hK K
          refine norm_ (a' := ?_) ?_ ?_
          rotate_left
          ·show Act.put _ (some 46) _ = _
           simp only [Act.put, sA_, sB_, sC_, i64_w, i32_w]
           rfl
          refine pu_ 11 (some 6) L12_12 HT_ ?_
          refine done_ (done_of HT_.out (by kernel_rfl)) ?_
          try go_wp2
          go_ret
          exact ⟨by first | rfl | (simp <;> rfl) | (simp [*] <;> rfl), bq2_ HB.out GE378.out GE379.out⟩
        ·rw [if_neg c21] at H
         exact absurd H (by simp)
       ·rw [if_neg c20] at H
        exact absurd H (by simp)
      ·rw [if_neg c19] at H
       have c19b0 : decide (x5_2 < (l0_0.length : Int)) = false := decide_eq_false c19
       clear c19
       obtain rfl := Option.some.inj H
       have hnb32 := NB378_379.out
       have hnc32 := NB379_378.out
       have hcz33_0 := cz0_ BK378.out
       have hcz33_1 := cz1_ BK378.out
       have hcz33_2 := cz2_ BK378.out
       have hfz33_0 := blk_frozen BK378.out 0
       have hfz33_1 := blk_frozen BK378.out 1
       have hfz33_2 := blk_frozen BK378.out 2
       go_wp2
       go_ret
       exact ⟨by first | rfl | (simp <;> rfl) | (simp [*] <;> rfl), bq2_ HB.out GE378.out GE379.out⟩
def fullerref10_In.l0 : Nat → List Int → Int → Int → Option (Bool)
  | 0, _, _, _ => none
  | k + 1, x0, x1, x5 => if x5 < (x0.length : Int) then (if 0 ≤ x5 then (if (rd x0 x5) = x1 then (some true) else (fullerref10_In.l0 k x0 x1 (wrap64 (x5 + 1)))) else (none)) else (some false)
def fullerref10_In.f (k : Nat) (l0 : List Int) (a1 : Int) : Option (Bool) := fullerref10_In.l0 k l0 a1 0
set_option maxHeartbeats 8000000 in
set_option maxRecDepth 100000 in
theorem fullerref10_In.calls (k : Nat) (A0 : Option Addr) (c0 : Nat) (l0 : List Int) (a1 : Int) (r : Bool) (w : World) (hr0 : Kd.C (Kd.int .i64) w A0 l0.length l0) (hc0 : l0.length ≤ c0) (h : fullerref10_In.f k l0 a1 = some r) :
    Calls Try.prog 14 #[.slice A0 l0.length c0, .int .i64 a1] w fun e w' => e = .returned (.bool r) ∧ Drawn0 w w' := by
  have HR0 := Aside0.mk hr0
  have HC0 := Aside0.mk hc0
  clear hr0 hc0
  have H : (fullerref10_In.l0 k l0 a1 0) = some r := h
  clear h
  have H' := Aside0.mk H
  clear H
  go_enter Try.func14, Try.ntmps14
  go_wp2
  go_loopg [5] k (fun kq v5 w' => ∃ (x5_1 : Int), v5 = .int .i64 x5_1 ∧ Aside0 (fullerref10_In.l0 kq l0 a1 x5_1 = some r) ∧ Aside0 (kq ≤ k) ∧ Drawn0 w w')
  case atStart => exact ⟨(0), (by first | rfl | (simp; done) | (simp [*]; done)), H', ⟨Nat.le_refl _⟩, by repeat (first | exact Drawn0.refl _ | apply Drawn0.step)⟩
  case round =>
    clear H'
    try clear c1
    try clear p2
    obtain ⟨x5_1, rfl, HA, HK1, ⟨m1, rfl⟩⟩ := hrel
    cases gk with
    | zero => exact absurd HA.out (by simp [fullerref10_In.l0])
    | succ k1 =>
      have H := HA.out
      clear HA
      simp only [fullerref10_In.l0] at H
      by_cases c3 : x5_1 < (l0.length : Int)
      · rw [if_pos c3] at H
        have c3b0 : decide (x5_1 < (l0.length : Int)) = true := decide_eq_true c3
        clear c3
        by_cases c4 : 0 ≤ x5_1
        · rw [if_pos c4] at H
          have c4b0 : decide (0 ≤ x5_1) = true := decide_eq_true c4
          clear c4
          by_cases c5 : (rd l0 x5_1) = a1
          · rw [if_pos c5] at H
            have c5b0 : ((rd l0 x5_1) == a1) = true := beq_iff_eq.mpr c5
            have c5b1 : ((rd l0 x5_1) != a1) = false := bne_eq_false_iff_eq.mpr c5
            clear c5
            obtain rfl := Option.some.inj H
            have p384 : 0 ≤ (x5_1 : Int) := of_decide_eq_true (by first | (with_reducible assumption) | assumption)
            have q384 : x5_1 < (l0.length : Int) := of_decide_eq_true (by first | (with_reducible assumption) | assumption)
            obtain ⟨ad384, e384, hx384_0⟩ := Kd.at_int HR0.out x5_1 p384 q384
            cases e384
            replace p384 := eq_true p384
            replace q384 := eq_true q384
            go_wp2
            go_ret
            exact ⟨by first | rfl | (simp; done) | (simp [*]; done), by repeat (first | exact Drawn0.refl _ | apply Drawn0.step)⟩
          · rw [if_neg c5] at H
            have c5b0 : ((rd l0 x5_1) == a1) = false := beq_eq_false_iff_ne.mpr c5
            have c5b1 : ((rd l0 x5_1) != a1) = true := bne_iff_ne.mpr c5
            have H' := Aside0.mk H
            clear H
            have p384 : 0 ≤ (x5_1 : Int) := of_decide_eq_true (by first | (with_reducible assumption) | assumption)
            have q384 : x5_1 < (l0.length : Int) := of_decide_eq_true (by first | (with_reducible assumption) | assumption)
            obtain ⟨ad384, e384, hx384_0⟩ := Kd.at_int HR0.out x5_1 p384 q384
            cases e384
            replace p384 := eq_true p384
            replace q384 := eq_true q384
            go_wp2
            go_roundg k1
            case measure => have := HK1.out; omega
            case rel => exact ⟨(wrap64 (x5_1 + 1)), (by first | rfl | (simp; done) | (simp [*]; done)), H', ⟨by have := HK1.out; omega⟩, by repeat (first | exact Drawn0.refl _ | apply Drawn0.step)⟩
        · rw [if_neg c4] at H
          exact absurd H (by simp)
      · rw [if_neg c3] at H
        have c3b0 : decide (x5_1 < (l0.length : Int)) = false := decide_eq_false c3
        clear c3
        obtain rfl := Option.some.inj H
        go_wp2
        go_ret
        exact ⟨by first | rfl | (simp; done) | (simp [*]; done), by repeat (first | exact Drawn0.refl _ | apply Drawn0.step)⟩
end Go.Proofs.Ytmolbbebglfhmaa.A
