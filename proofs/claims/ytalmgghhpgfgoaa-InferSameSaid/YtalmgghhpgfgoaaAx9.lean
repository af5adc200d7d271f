/- Lean functions that answer as the Go functions do, and the proofs that they do; no conditions. Written by this session's own driver: a scratch copy of the kit's print with the session's additions (wip/xprint). -/
import Derived.Test.YtalmgghhpgfgoaaAx0
import Derived.Test.YtalmgghhpgfgoaaAx2
import Derived.Test.YtalmgghhpgfgoaaAx8
namespace Go.Proofs.Ytalmgghhpgfgoaa.A
open Go.RowKit Go.Proofs.YtalmgghhpgfgoaaW.PrintWords Go.Proofs.YtalmgghhpgfgoaaW.PrintLast Go.Proofs.YtalmgghhpgfgoaaW.PrintMore
attribute [local go_sem] max2_int min2_int max_two min_two max_three min_three max_four min_four   -- for this text's walks alone
set_option linter.unusedVariables false
set_option linter.unusedSimpArgs false

/-! ### infer_Shapes: function 13 -/
mutual
def infer_Shapes.l0 : Nat → List (List Int) → Int → Int → List (S25) → Int → Int → Option ((List (List Int)) × Int × Int)
 | 0, _, _, _, _, _, _ => none
 | k + 1, x2, x3, x4, x15, x16, x17 => if x17 < x16 then (if 0 ≤ x17 then (if x17 < (x15.length : Int) then (infer_Shapes.l1 k x2 x3 x4 x17 ([] : List (List Int)) x15 x16 x17 ((rd_T25 x15 x17).f1) (((rd_T25 x15 x17).f1).length : Int) 0 ((rd_T25 x15 x17).f0) ((rd_T25 x15 x17).f1) ((rd_T25 x15 x17).f2)) else (none)) else (none)) else (some (x2, x3, x4))
def infer_Shapes.l1 : Nat → List (List Int) → Int → Int → Int → List (List Int) → List (S25) → Int → Int → List Int → Int → Int → Int → List Int → List Int → Option ((List (List Int)) × Int × Int)
 | 0, _, _, _, _, _, _, _, _, _, _, _, _, _, _ => none
 | k + 1, x2, x3, x4, x5, x7, x15, x16, x17, x23, x24, x25, x201000, x201001, x201002 => if x25 < x24 then (if 0 ≤ x25 then (if x25 < (x23.length : Int) then (if 0 ≤ (rd x23 x25) then (if (rd x23 x25) < (x2.length : Int) then (if x7.length < 5864062014805 then (infer_Shapes.l1 k x2 x3 x4 x5 (x7 ++ [rd_L1 x2 (rd x23 x25)]) x15 x16 x17 x23 x24 (wrap64 (x25 + 1)) x201000 x201001 x201002) else (none)) else (none)) else (none)) else (none)) else (none)) else ((infer_Node.f k x201000 x201001 x201002 x7).bind fun bt206 => (if bt206.2 = 0 then (if x2.length < 5864062014805 then (infer_Shapes.l0 k (x2 ++ [bt206.1]) x3 x4 x15 x16 (wrap64 (x17 + 1))) else (none)) else (some (([] : List (List Int)), x5, bt206.2))))
end
def infer_Shapes.f (k : Nat) (l0 : List (S25)) : Option ((List (List Int)) × Int × Int) := (graph_Check.f l0).bind fun t198 => (if t198 = true then (infer_Shapes.l0 k ([] : List (List Int)) (-1) 0 l0 (l0.length : Int) 0) else (some (([] : List (List Int)), (-1), 100)))
theorem infer_Shapes.mono_l : ∀ k, (∀ y0 y1 y2 y3 y4 y5, LeO (infer_Shapes.l0 k y0 y1 y2 y3 y4 y5) (infer_Shapes.l0 (k + 1) y0 y1 y2 y3 y4 y5)) ∧ (∀ y0 y1 y2 y3 y4 y5 y6 y7 y8 y9 y10 y11 y12 y13, LeO (infer_Shapes.l1 k y0 y1 y2 y3 y4 y5 y6 y7 y8 y9 y10 y11 y12 y13) (infer_Shapes.l1 (k + 1) y0 y1 y2 y3 y4 y5 y6 y7 y8 y9 y10 y11 y12 y13))
 | 0 => ⟨fun _ _ _ _ _ _ r h => by simp [infer_Shapes.l0] at h, fun _ _ _ _ _ _ _ _ _ _ _ _ _ _ r h => by simp [infer_Shapes.l1] at h⟩
 | k + 1 => by
  obtain ⟨ih0, ih1⟩ := infer_Shapes.mono_l k
  refine ⟨?_, ?_⟩
  ·intro y0 y1 y2 y3 y4 y5
   unfold infer_Shapes.l0
   repeat' first
   | (with_reducible exact ih0 _ _ _ _ _ _)
   | (with_reducible exact ih1 _ _ _ _ _ _ _ _ _ _ _ _ _ _)
   | (with_reducible exact infer_Node.mono _ _ _ _ _)
   | (with_reducible exact LeO.refl _)
   | (with_reducible exact LeO.none _)
   | (with_reducible refine LeO.ite ?_ ?_)
   | (with_reducible refine LeO.bind ?_ (fun _ => ?_))
   | exact ih0 _ _ _ _ _ _
   | exact ih1 _ _ _ _ _ _ _ _ _ _ _ _ _ _
   | exact infer_Node.mono _ _ _ _ _
   | exact LeO.none _
   | refine LeO.ite ?_ ?_
   | refine LeO.bind ?_ (fun _ => ?_)
  ·intro y0 y1 y2 y3 y4 y5 y6 y7 y8 y9 y10 y11 y12 y13
   unfold infer_Shapes.l1
   repeat' first
   | (with_reducible exact ih0 _ _ _ _ _ _)
   | (with_reducible exact ih1 _ _ _ _ _ _ _ _ _ _ _ _ _ _)
   | (with_reducible exact infer_Node.mono _ _ _ _ _)
   | (with_reducible exact LeO.refl _)
   | (with_reducible exact LeO.none _)
   | (with_reducible refine LeO.ite ?_ ?_)
   | (with_reducible refine LeO.bind ?_ (fun _ => ?_))
   | exact ih0 _ _ _ _ _ _
   | exact ih1 _ _ _ _ _ _ _ _ _ _ _ _ _ _
   | exact infer_Node.mono _ _ _ _ _
   | exact LeO.none _
   | refine LeO.ite ?_ ?_
   | refine LeO.bind ?_ (fun _ => ?_)
theorem infer_Shapes.mono : ∀ a0 k, LeO (infer_Shapes.f k a0) (infer_Shapes.f (k + 1) a0) := by
 intro a0 k
 obtain ⟨ih0, ih1⟩ := infer_Shapes.mono_l k
 unfold infer_Shapes.f
 repeat' first
   | (with_reducible exact ih0 _ _ _ _ _ _)
   | (with_reducible exact ih1 _ _ _ _ _ _ _ _ _ _ _ _ _ _)
   | (with_reducible exact infer_Node.mono _ _ _ _ _)
   | (with_reducible exact LeO.refl _)
   | (with_reducible exact LeO.none _)
   | (with_reducible refine LeO.ite ?_ ?_)
   | (with_reducible refine LeO.bind ?_ (fun _ => ?_))
   | exact ih0 _ _ _ _ _ _
   | exact ih1 _ _ _ _ _ _ _ _ _ _ _ _ _ _
   | exact infer_Node.mono _ _ _ _ _
   | exact LeO.none _
   | refine LeO.ite ?_ ?_
   | refine LeO.bind ?_ (fun _ => ?_)
set_option maxHeartbeats 8000000 in
set_option maxRecDepth 100000 in
theorem infer_Shapes.calls (k : Nat) (A0 : Option Addr) (c0 : Nat) (l0 : List (S25)) (r1 : List (List Int)) (r2 : Int) (r3 : Int) (w : World) (hr0 : Kd.C k25 w A0 l0.length l0) (hc0 : l0.length ≤ c0) (h : infer_Shapes.f k l0 = some (r1, r2, r3)) :
  Calls Try.prog 13 #[.slice A0 l0.length c0] w fun e w' => ∃ v0_ : Value, e = .returned (.tuple #[v0_, .int .i64 r2, .int .i64 r3]) ∧ Kd.N (Kd.slice 3 (Kd.int .i64)) 23 w' w.heap.size (fun k_ => (w.heap.size ≤ k_)) v0_ r1 ∧ Below w.heap.size w w' := by
 have hu25 := Try.underlying25
 have HR0 := Aside0.mk hr0
 have HC0 := Aside0.mk hc0
 clear hr0 hc0
 have HB := Aside0.mk (Below.refl w.heap.size w)
 have H : ((graph_Check.f l0).bind fun t198 => (if t198 = true then (infer_Shapes.l0 k ([] : List (List Int)) (-1) 0 l0 (l0.length : Int) 0) else (some (([] : List (List Int)), (-1), 100)))) = some (r1, r2, r3) := h
 clear h
 replace H := Option.bind_eq_some_iff.mp H
 obtain ⟨t198, A20, H⟩ := H
 replace H : (if t198 = true then (infer_Shapes.l0 k ([] : List (List Int)) (-1) 0 l0 (l0.length : Int) 0) else (some (([] : List (List Int)), (-1), 100))) = some (r1, r2, r3) := H
 have A2 := Aside0.mk A20
 clear A20
 by_cases c3 : t198 = true
 ·subst c3
  have H1 : (infer_Shapes.l0 k ([] : List (List Int)) (-1) 0 l0 (l0.length : Int) 0) = some (r1, r2, r3) := by rw [if_pos rfl] at H; exact H
  clear H
  have H := H1
  clear H1
  have H' := Aside0.mk H
  clear H
  go_enter Try.func13, Try.ntmps13
  go_wp2_with (first | ((with_reducible refine gate_callee (f := 17) rfl ?_); refine gL_ (some 13) Try.func17 #[.slice A0 l0.length c0] ?_; (with_reducible refine (graph_Check.calls _ _ l0 true _ ?side1 ?side2 A2.out).mono ?_); (case side1 => exact mvC_ (HR0.out)); (case side2 => exact HC0.out); rintro e w4 ⟨rfl, hb⟩; refine ⟨_, rfl, ?_⟩; replace HB := Aside0.mk (below_step (bq0_ HB.out) hb); (try clear hb)))
  go_loopg [2, 3, 4, 17] k (fun kq v2 v3 v4 v17 w' => ∃ (x2_1 : List (List Int)) (x3_1 : Int) (x4_1 : Int) (x17_1 : Int), v3 = .int .i64 x3_1 ∧ v4 = .int .i64 x4_1 ∧ v17 = .int .i64 x17_1 ∧ Aside0 (infer_Shapes.l0 kq x2_1 x3_1 x4_1 l0 (l0.length : Int) x17_1 = some (r1, r2, r3)) ∧ Aside0 (kq ≤ k) ∧ Aside0 (Kd.N (Kd.slice 3 (Kd.int .i64)) 23 w' w.heap.size (fun k_ => (w.heap.size ≤ k_)) v2 x2_1) ∧ Aside0 (Below w.heap.size w w'))
  case atStart => exact ⟨(([] : List (List Int))), ((-1)), (0), (0), (by first | rfl | (simp; done) | (simp [*]; done)), (by first | rfl | (simp; done) | (simp [*]; done)), (by first | rfl | (simp; done) | (simp [*]; done)), H', ⟨Nat.le_refl _⟩, ⟨by first | exact Kd.R_nil _ _ _ _ _ | exact Kd.N_nil _ _ _ _ _ | exact Kd.V_nil _ _ _ _ _ | exact Kd.Q_nil _ _ _ _ _ | exact Kd.S_nil _ _ _ _ _⟩, ⟨bq0_ HB.out⟩⟩
  case round =>
   clear H'
   try clear c1
   try clear p2
   try clear c3
   obtain ⟨x2_1, x3_1, x4_1, x17_1, rfl, rfl, rfl, HA, HK1, HO_2, HB⟩ := hrel
   cases gk with
   | zero => exact absurd HA.out (by simp [infer_Shapes.l0])
   | succ k1 =>
    have H := HA.out
    clear HA
    simp only [infer_Shapes.l0] at H
    by_cases c5 : x17_1 < (l0.length : Int)
    ·rw [if_pos c5] at H
     have c5b0 : decide (x17_1 < (l0.length : Int)) = true := decide_eq_true c5
     clear c5
     by_cases c6 : 0 ≤ x17_1
     ·rw [if_pos c6] at H
      have c6b0 : decide (0 ≤ x17_1) = true := decide_eq_true c6
      clear c6
      by_cases c7 : x17_1 < (l0.length : Int)
      ·rw [if_pos c7] at H
       have c7b0 : decide (x17_1 < (l0.length : Int)) = true := decide_eq_true c7
       clear c7
       have H' := Aside0.mk H
       clear H
       have p199 : 0 ≤ (x17_1 : Int) := od_
       have q199 : x17_1 < (l0.length : Int) := od_
       obtain ⟨ad199, A199_1, c199_1, A199_2, c199_2, e199, hx199_0, hx199_1, hx199_2, hl199_1, hi199_1, hl199_2, hi199_2⟩ := at_T25 HR0.out x17_1 p199 q199
       cases e199
       replace hx199_0 := (HB.out.cell (World.block_lt_of_cell? w _ hx199_0)).trans hx199_0
       replace hx199_1 := (HB.out.cell (World.block_lt_of_cell? w _ hx199_1)).trans hx199_1
       replace hx199_2 := (HB.out.cell (World.block_lt_of_cell? w _ hx199_2)).trans hx199_2
       have HR199_1 := Aside0.mk hi199_1
       have HC199_1 := Aside0.mk hl199_1
       clear hi199_1 hl199_1
       have HR199_2 := Aside0.mk hi199_2
       have HC199_2 := Aside0.mk hl199_2
       clear hi199_2 hl199_2
       replace p199 := eq_true p199
       replace q199 := eq_true q199
       go_wp2_with (first | ((with_reducible refine gate_dst (N := 6) rfl ?_); refine box_event ?hg (N := 6) ?hd (cs := #[.int .i64 0, .slice none 0 0, .slice none 0 0]) (t := 25) ?hr ?_; (case hd => rfl); (case hg => rfl); (case hr => first | (go_simp; done) | (go_simp; rfl)); intro gb200 hg w8 hbox hb; have BK200 := Aside0.mk (hbox); have GW200 := Aside0.mk ((by rw [hg]; exact (below_size (bq0_ HB.out)) : w.heap.size ≤ gb200)); have GE200 := Aside0.mk ((by rw [hg]; exact (below_size (bq0_ HB.out)) : w.heap.size ≤ gb200)); replace HO_2 := Aside0.mk (Kd.N_below (Kd.N_elderB (mvN_ HO_2.out) gb200 (Nat.le_of_eq hg.symm)) hb); replace HB := Aside0.mk (below_step (bq0_ HB.out) hb); clear hb hbox hg; have hcz9_0 : w8.cell? ⟨gb200, 0, none⟩ = some (.int .i64 0) := (blk_cell BK200.out 0).trans rfl; have hcz9_1 : w8.cell? ⟨gb200, 1, none⟩ = some (.slice none 0 0) := (blk_cell BK200.out 1).trans rfl; have hcz9_2 : w8.cell? ⟨gb200, 2, none⟩ = some (.slice none 0 0) := (blk_cell BK200.out 2).trans rfl; have hfz9_0 := blk_frozen BK200.out 0; have hfz9_1 := blk_frozen BK200.out 1; have hfz9_2 := blk_frozen BK200.out 2))
       go_loopg [7, 25] k1 (fun kq v7 v25 w' => ∃ (x7_2 : List (List Int)) (x25_2 : Int), v25 = .int .i64 x25_2 ∧ Aside0 (infer_Shapes.l1 kq x2_1 x3_1 x4_1 x17_1 x7_2 l0 (l0.length : Int) x17_1 ((rd_T25 l0 x17_1).f1) (((rd_T25 l0 x17_1).f1).length : Int) x25_2 ((rd_T25 l0 x17_1).f0) ((rd_T25 l0 x17_1).f1) ((rd_T25 l0 x17_1).f2) = some (r1, r2, r3)) ∧ Aside0 (kq ≤ k1) ∧ Aside0 (Kd.N (Kd.slice 3 (Kd.int .i64)) 23 w' w.heap.size (fun k_ => (w.heap.size ≤ k_) ∧ some k_ ≠ (v7 : Value).ownBlock ∧ k_ ≠ gb200) u2 x2_1) ∧ Aside0 (Kd.N (Kd.slice 3 (Kd.int .i64)) 23 w' w.heap.size (fun k_ => (w.heap.size ≤ k_) ∧ some k_ ≠ (u2 : Value).ownBlock ∧ k_ ≠ gb200) v7 x7_2) ∧ Aside0 (w'.heap[gb200]? = some (.cells #[.int .i64 ((rd_T25 l0 x17_1).f0), (.slice A199_1 ((rd_T25 l0 x17_1).f1).length c199_1), (.slice A199_2 ((rd_T25 l0 x17_1).f2).length c199_2)] 25 (0, 0))) ∧ Aside0 (Below w.heap.size w w'))
       case atStart => exact ⟨(([] : List (List Int))), (0), (by first | rfl | (simp; done) | (simp [*]; done)), H', ⟨Nat.le_refl _⟩, ⟨by (with_reducible repeat (first | apply Kd.N_alloc | apply Kd.N_drewN | apply Kd.N_drew)); exact Kd.N_mono (Kd.N_far (p := ⟨gb200, 2, none⟩) (Kd.N_far (p := ⟨gb200, 1, none⟩) (Kd.N_far (p := ⟨gb200, 0, none⟩) (Kd.N_mono HO_2.out (fun k_ hk => (⟨hk, hk.2⟩ : _ ∧ k_ ≠ gb200))) (fun _ hk => hk.2) (.int .i64 ((rd_T25 l0 x17_1).f0))) (fun _ hk => hk.2) (.slice A199_1 ((rd_T25 l0 x17_1).f1).length c199_1)) (fun _ hk => hk.2) (.slice A199_2 ((rd_T25 l0 x17_1).f2).length c199_2)) (fun _ hk => ⟨hk.1.1, ⟨(by simp [Value.ownBlock]), hk.1.2⟩⟩)⟩, ⟨by first | exact Kd.R_nil _ _ _ _ _ | exact Kd.N_nil _ _ _ _ _ | exact Kd.V_nil _ _ _ _ _ | exact Kd.Q_nil _ _ _ _ _ | exact Kd.S_nil _ _ _ _ _⟩, ⟨by (with_reducible repeat (first | refine blk_drewN ?_ _ | refine blk_drew ?_ | refine blk_alloc ?_ _)); refine blk_put (cs := #[.int .i64 ((rd_T25 l0 x17_1).f0), .slice A199_1 ((rd_T25 l0 x17_1).f1).length c199_1, .slice none 0 0]) ?_ 2 _ rfl; (with_reducible repeat (first | refine blk_drewN ?_ _ | refine blk_drew ?_ | refine blk_alloc ?_ _)); refine blk_put (cs := #[.int .i64 ((rd_T25 l0 x17_1).f0), .slice none 0 0, .slice none 0 0]) ?_ 1 _ rfl; (with_reducible repeat (first | refine blk_drewN ?_ _ | refine blk_drew ?_ | refine blk_alloc ?_ _)); refine blk_put (cs := #[.int .i64 0, .slice none 0 0, .slice none 0 0]) ?_ 0 _ rfl; (with_reducible repeat (first | refine blk_drewN ?_ _ | refine blk_drew ?_ | refine blk_alloc ?_ _)); exact BK200.out⟩, ⟨bq1_ HB.out GE200.out⟩⟩
       case round =>
        clear H'
        try clear c1
        try clear p1
        try clear q1
        try clear hx1
        try clear p2
        try clear c3
        try clear c5
        try clear c5b0
        try clear c6
        try clear c6b0
        try clear c7
        try clear c7b0
        try clear hcz9_0
        try clear hcz9_1
        try clear hcz9_2
        try clear hfz9_0
        try clear hfz9_1
        try clear hfz9_2
        try clear hx199_0
        try clear hx199_1
        try clear hx199_2
        try clear p199
        try clear p2
        try clear q199
        obtain ⟨x7_2, x25_2, rfl, HA, HK2, HO_2, HO_7, BK200, HB⟩ := hrel
        cases gk with
        | zero => exact absurd HA.out (by simp [infer_Shapes.l1])
        | succ k2 =>
         have H := HA.out
         clear HA
         simp only [infer_Shapes.l1] at H
         by_cases c10 : x25_2 < (((rd_T25 l0 x17_1).f1).length : Int)
         ·rw [if_pos c10] at H
          have c10b0 : decide (x25_2 < (((rd_T25 l0 x17_1).f1).length : Int)) = true := decide_eq_true c10
          clear c10
          by_cases c11 : 0 ≤ x25_2
          ·rw [if_pos c11] at H
           have c11b0 : decide (0 ≤ x25_2) = true := decide_eq_true c11
           clear c11
           by_cases c12 : x25_2 < (((rd_T25 l0 x17_1).f1).length : Int)
           ·rw [if_pos c12] at H
            have c12b0 : decide (x25_2 < (((rd_T25 l0 x17_1).f1).length : Int)) = true := decide_eq_true c12
            clear c12
            by_cases c13 : 0 ≤ (rd ((rd_T25 l0 x17_1).f1) x25_2)
            ·rw [if_pos c13] at H
             have c13b0 : decide (0 ≤ (rd ((rd_T25 l0 x17_1).f1) x25_2)) = true := decide_eq_true c13
             clear c13
             by_cases c14 : (rd ((rd_T25 l0 x17_1).f1) x25_2) < (x2_1.length : Int)
             ·rw [if_pos c14] at H
              have c14b0 : decide ((rd ((rd_T25 l0 x17_1).f1) x25_2) < (x2_1.length : Int)) = true := decide_eq_true c14
              clear c14
              by_cases c15 : x7_2.length < 5864062014805
              ·rw [if_pos c15] at H
               have LMc15 := Aside0.mk c15
               clear c15
               obtain ⟨y203, hy203⟩ : ∃ y_ : List (List Int), y_ = (x7_2 ++ [rd_L1 x2_1 (rd ((rd_T25 l0 x17_1).f1) x25_2)]) := ⟨_, rfl⟩
               replace H : (infer_Shapes.l1 k2 x2_1 x3_1 x4_1 x17_1 y203 l0 (l0.length : Int) x17_1 ((rd_T25 l0 x17_1).f1) (((rd_T25 l0 x17_1).f1).length : Int) (wrap64 (x25_2 + 1)) ((rd_T25 l0 x17_1).f0) ((rd_T25 l0 x17_1).f1) ((rd_T25 l0 x17_1).f2)) = some (r1, r2, r3) := by first | (rw [hy203]; with_reducible exact H) | (have H2_ := (Option.bind_some _ _).symm.trans H; rw [hy203]; with_reducible exact H2_) | (have H2_ := (Option.bind_some _ _).symm.trans H; with_reducible exact H2_) | with_reducible exact H | (rw [hy203]; exact H) | exact H
               have Ny203 := Aside0.mk hy203
               clear hy203
               have H' := Aside0.mk H
               clear H
               have p201 : 0 ≤ (x25_2 : Int) := od_
               have q201 : x25_2 < (((rd_T25 l0 x17_1).f1).length : Int) := od_
               obtain ⟨ad201, e201, hx201_0⟩ := Kd.at_int HR199_1.out x25_2 p201 q201
               cases e201
               replace hx201_0 := (HB.out.cell (World.block_lt_of_cell? w _ hx201_0)).trans hx201_0
               replace p201 := eq_true p201
               replace q201 := eq_true q201
               obtain ⟨Ao16, co16, eo16⟩ := Kd.N_slice HO_2.out
               subst eo16
               have p202 : 0 ≤ ((rd ((rd_T25 l0 x17_1).f1) x25_2) : Int) := od_
               have q202 : (rd ((rd_T25 l0 x17_1).f1) x25_2) < (x2_1.length : Int) := od_
               obtain ⟨ad202, A202_0, c202_0, e202, hx202_0, hl202_0, hi202_0⟩ := at_L1 (Kd.N_reads' HO_2.out).2.2 (rd ((rd_T25 l0 x17_1).f1) x25_2) p202 q202
               cases e202
               obtain ⟨ce202, hce202, hMe202, hcc202⟩ := Kd.N_get HO_2.out [] (rd ((rd_T25 l0 x17_1).f1) x25_2) p202 (by first | exact q202 | exact od_ | (have e_ := (Kd.N_reads' HO_2.out).1; omega))
               obtain ⟨ua202_0, uc202_0, rfl, ul202_0, ge202_0⟩ := Kd.FK_slice_open hMe202
               have hv202_0 := hcc202 0 _ rfl
               rw [Nat.add_zero, show ((Kd.slice 3 (Kd.int .i64))).sz = 1 from rfl, Nat.mul_one] at hv202_0
               replace hv202_0 := Option.some.inj (hv202_0.symm.trans hx202_0)
               injection hv202_0 with hva_ hvn_ hvc_
               rw [hva_] at ge202_0
               rw [hvc_] at ul202_0
               have HL202_0 := Aside0.mk (show Kd.V (Kd.int .i64) 3 _ w.heap.size _ _ (rd_L1 x2_1 (rd ((rd_T25 l0 x17_1).f1) x25_2)) from Kd.V_mk ul202_0 ge202_0)
               clear hva_ hvn_ hvc_ ge202_0 ul202_0 hcc202 hce202
               have HR202_0 := Aside0.mk hi202_0
               have HC202_0 := Aside0.mk hl202_0
               clear hi202_0 hl202_0
               replace p202 := eq_true p202
               replace q202 := eq_true q202
               go_wp2_with (first | ((with_reducible refine gate_builtin (b := .append) (xs := #[.tmp 29, .tmp 34]) rfl ?_); at_builtin; refine Kd.N_append (Kd.slice 3 (Kd.int .i64)) (w0 := w) w.heap.size rfl (.tmp 29) (.tmp 34) 26 23 (.slice none 0 0) 24 rfl Try.underlying26 info23 rfl (by decide) (by omega) u7 x7_2 (rd_L1 x2_1 (rd ((rd_T25 l0 x17_1).f1) x25_2)) [.slice A202_0 (rd_L1 x2_1 (rd ((rd_T25 l0 x17_1).f1) x25_2)).length c202_0] (fun k_ => (w.heap.size ≤ k_) ∧ some k_ ≠ (.slice (some ad202) x2_1.length co16 : Value).ownBlock ∧ k_ ≠ gb200) (fun k_ => ((fun k_ => (w.heap.size ≤ k_) ∧ some k_ ≠ (.slice (some ad202) x2_1.length co16 : Value).ownBlock ∧ k_ ≠ gb200)) k_ ∧ some k_ ≠ (u7 : Value).ownBlock) rfl rfl ?aP (fun _ hk => hk) ?aF ?aO ?aB ?aS ?aL ?_; (case aP => exact (Kd.FK_slice_mk (Kd.V_reads' (Kd.V_mono (ok' := (fun k_ => ((fun k_ => (w.heap.size ≤ k_) ∧ some k_ ≠ (.slice (some ad202) x2_1.length co16 : Value).ownBlock ∧ k_ ≠ gb200)) k_ ∧ some k_ ≠ (u7 : Value).ownBlock)) (HL202_0.out) (fun k_ hk => ⟨⟨hk.1.1, ⟨hk.2, hk.1.2.2⟩⟩, hk.1.2.1⟩))).2.1 (Kd.V_F (Kd.V_mono (ok' := (fun k_ => ((fun k_ => (w.heap.size ≤ k_) ∧ some k_ ≠ (.slice (some ad202) x2_1.length co16 : Value).ownBlock ∧ k_ ≠ gb200)) k_ ∧ some k_ ≠ (u7 : Value).ownBlock)) (HL202_0.out) (fun k_ hk => ⟨⟨hk.1.1, ⟨hk.2, hk.1.2.2⟩⟩, hk.1.2.1⟩))))); (case aB => exact (bq1_ HB.out GE200.out)); (case aF => exact (fun k_ hk => ⟨(Nat.le_trans (below_size (bq1_ HB.out GE200.out)) hk), Kd.fresh' (Kd.N_lt (mvN_ HO_2.out)) k_ hk, Kd.freshB (g := gb200) (o := .cells #[.int .i64 ((rd_T25 l0 x17_1).f0), .slice (some ad201) ((rd_T25 l0 x17_1).f1).length c199_1, .slice A199_2 ((rd_T25 l0 x17_1).f2).length c199_2] 25 (0, 0)) (mvK_ BK200.out) k_ hk⟩)); (case aO => exact (mvN_ HO_7.out)); (case aS => exact (below_size (bq1_ HB.out GE200.out))); (case aL => have := LMc15.out; omega); intro v204 w17 ho hb hg hat; rw [← Ny203.out] at ho; have HO205 := Aside0.mk (ho); replace HO_2 := Aside0.mk (Kd.N_afterv (ok := (fun k_ => (w.heap.size ≤ k_) ∧ k_ ≠ gb200)) (by (with_reducible repeat (first | apply Kd.N_alloc | apply Kd.N_drewN | apply Kd.N_drew)); exact Kd.N_mono HO_2.out (fun _ hk => ⟨⟨hk.1, hk.2.2⟩, hk.2.1⟩)) hg hat); replace BK200 := Aside0.mk (blk_grown (g := gb200) (o := .cells #[.int .i64 ((rd_T25 l0 x17_1).f0), .slice (some ad201) ((rd_T25 l0 x17_1).f1).length c199_1, .slice A199_2 ((rd_T25 l0 x17_1).f2).length c199_2] 25 (0, 0)) (mvK_ BK200.out) hg (Kd.N_ne HO_7.out BK200.out (by decide))); replace HL202_0 := Aside0.mk (Kd.V_afterv (ok := (fun k_ => (w.heap.size ≤ k_) ∧ some k_ ≠ (.slice (some ad202) x2_1.length co16 : Value).ownBlock ∧ k_ ≠ gb200)) (by (with_reducible repeat (first | apply Kd.V_alloc | apply Kd.V_drewN | apply Kd.V_drew)); exact Kd.V_mono HL202_0.out (fun _ hk => ⟨⟨hk.1.1, ⟨hk.2, hk.1.2.2⟩⟩, hk.1.2.1⟩)) hg hat); replace HB := Aside0.mk (hb); clear HO_7 ho hb hg hat))
               go_roundg k2
               case measure => have := HK1.out; have := HK2.out; omega
               case rel => exact ⟨(y203), (wrap64 (x25_2 + 1)), (by first | rfl | (simp; done) | (simp [*]; done)), H', ⟨by have := HK1.out; have := HK2.out; omega⟩, ⟨by (with_reducible repeat (first | apply Kd.N_alloc | apply Kd.N_drewN | apply Kd.N_drew)); exact Kd.N_mono HO_2.out (fun _ hk => ⟨hk.1.1, ⟨hk.2, hk.1.2⟩⟩)⟩, ⟨mvN_ HO205.out⟩, ⟨by (with_reducible repeat (first | refine blk_drewN ?_ _ | refine blk_drew ?_ | refine blk_alloc ?_ _)); exact BK200.out⟩, ⟨bq1_ HB.out GE200.out⟩⟩
              ·rw [if_neg c15] at H
               exact absurd H (by simp)
             ·rw [if_neg c14] at H
              exact absurd H (by simp)
            ·rw [if_neg c13] at H
             exact absurd H (by simp)
           ·rw [if_neg c12] at H
            exact absurd H (by simp)
          ·rw [if_neg c11] at H
           exact absurd H (by simp)
         ·rw [if_neg c10] at H
          have c10b0 : decide (x25_2 < (((rd_T25 l0 x17_1).f1).length : Int)) = false := decide_eq_false c10
          clear c10
          replace H := Option.bind_eq_some_iff.mp H
          obtain ⟨⟨t206, t209⟩, A180, H⟩ := H
          replace H : (if t209 = 0 then (if x2_1.length < 5864062014805 then (infer_Shapes.l0 k2 (x2_1 ++ [t206]) x3_1 x4_1 l0 (l0.length : Int) (wrap64 (x17_1 + 1))) else (none)) else (some (([] : List (List Int)), x17_1, t209))) = some (r1, r2, r3) := H
          have A18 := Aside0.mk A180
          clear A180
          by_cases c19 : t209 = 0
          ·rw [if_pos c19] at H
           obtain ⟨c19b0, c19b1⟩ := eqT_ c19
           clear c19
           by_cases c20 : x2_1.length < 5864062014805
           ·rw [if_pos c20] at H
            have LMc20 := Aside0.mk c20
            clear c20
            obtain ⟨y210, hy210⟩ : ∃ y_ : List (List Int), y_ = (x2_1 ++ [t206]) := ⟨_, rfl⟩
            replace H : (infer_Shapes.l0 k2 y210 x3_1 x4_1 l0 (l0.length : Int) (wrap64 (x17_1 + 1))) = some (r1, r2, r3) := by first | (rw [hy210]; with_reducible exact H) | (have H2_ := (Option.bind_some _ _).symm.trans H; rw [hy210]; with_reducible exact H2_) | (have H2_ := (Option.bind_some _ _).symm.trans H; with_reducible exact H2_) | with_reducible exact H | (rw [hy210]; exact H) | exact H
            have Ny210 := Aside0.mk hy210
            clear hy210
            have H' := Aside0.mk H
            clear H
            have hcz21_0 : wr.cell? ⟨gb200, 0, none⟩ = some (.int .i64 ((rd_T25 l0 x17_1).f0)) := (blk_cell BK200.out 0).trans rfl
            have hcz21_1 : wr.cell? ⟨gb200, 1, none⟩ = some (.slice A199_1 ((rd_T25 l0 x17_1).f1).length c199_1) := (blk_cell BK200.out 1).trans rfl
            have hcz21_2 : wr.cell? ⟨gb200, 2, none⟩ = some (.slice A199_2 ((rd_T25 l0 x17_1).f2).length c199_2) := (blk_cell BK200.out 2).trans rfl
            have hfz21_0 := blk_frozen BK200.out 0
            have hfz21_1 := blk_frozen BK200.out 1
            have hfz21_2 := blk_frozen BK200.out 2
            obtain ⟨Ao22, co22, eo22⟩ := Kd.N_slice HO_7.out
            subst eo22
            go_wp2_with (first | ((with_reducible refine gate_callee (f := 11) rfl ?_); refine gL_ (some 40) Try.func11 #[.agg #[.int .i64 ((rd_T25 l0 x17_1).f0), .slice A199_1 ((rd_T25 l0 x17_1).f1).length c199_1, .slice A199_2 ((rd_T25 l0 x17_1).f2).length c199_2], .slice Ao22 x7_2.length co22] ?_; (with_reducible refine (infer_Node.calls k2 ((rd_T25 l0 x17_1).f0) _ _ ((rd_T25 l0 x17_1).f1) _ _ ((rd_T25 l0 x17_1).f2) _ _ x7_2 t206 t209 _ ?side1 ?side2 ?side3 ?side4 ?side5 ?side6 A18.out).mono ?_); (case side1 => exact mvC_ ((Kd.C_below HR199_1.out HB.out))); (case side2 => exact HC199_1.out); (case side3 => exact mvC_ ((Kd.C_below HR199_2.out HB.out))); (case side4 => exact HC199_2.out); (case side5 => exact mvC_ ((Kd.N_reads' HO_7.out).2.2)); (case side6 => exact (Kd.N_reads' HO_7.out).2.1); rintro e w23 ⟨v207, rfl, ho0, hb⟩; refine ⟨_, rfl, ?_⟩; have HO208 := Aside0.mk (Kd.R_lower (Kd.R_newM (M := fun k_ => (w.heap.size ≤ k_)) ho0 (below_size (bq1_ HB.out GE200.out)) (fun k_ h_ => h_)) (below_size (bq1_ HB.out GE200.out))); replace HO_2 := Aside0.mk (Kd.N_elder' (mvN_ HO_2.out) (Kd.R_base ho0) hb); replace HO_7 := Aside0.mk (Kd.N_elder' (mvN_ HO_7.out) (Kd.R_base ho0) hb); replace BK200 := Aside0.mk (blk_below (g := gb200) (o := .cells #[.int .i64 ((rd_T25 l0 x17_1).f0), .slice A199_1 ((rd_T25 l0 x17_1).f1).length c199_1, .slice A199_2 ((rd_T25 l0 x17_1).f2).length c199_2] 25 (0, 0)) (mvK_ BK200.out) hb); replace HB := Aside0.mk (below_step (bq1_ HB.out GE200.out) hb); (try clear hb); (try clear ho0); obtain ⟨Ao25, co25, eo25⟩ := Kd.R_slice HO208.out; subst eo25) | ((with_reducible refine gate_builtin (b := .append) (xs := #[.tmp 47, .tmp 49]) rfl ?_); at_builtin; refine Kd.N_append (Kd.slice 3 (Kd.int .i64)) (w0 := w) w.heap.size rfl (.tmp 47) (.tmp 49) 26 23 (.slice none 0 0) 24 rfl Try.underlying26 info23 rfl (by decide) (by omega) u2 x2_1 t206 [.slice Ao25 t206.length co25] (fun k_ => (w.heap.size ≤ k_) ∧ some k_ ≠ (.slice Ao22 x7_2.length co22 : Value).ownBlock ∧ k_ ≠ gb200) (fun k_ => ((fun k_ => (w.heap.size ≤ k_) ∧ some k_ ≠ (.slice Ao22 x7_2.length co22 : Value).ownBlock ∧ k_ ≠ gb200)) k_ ∧ some k_ ≠ (u2 : Value).ownBlock) rfl rfl ?aP (fun _ hk => hk) ?aF ?aO ?aB ?aS ?aL ?_; (case aP => exact (Kd.FK_slice_mk (Kd.R_reads' (Kd.R_mono (ok' := (fun k_ => ((fun k_ => (w.heap.size ≤ k_) ∧ some k_ ≠ (.slice Ao22 x7_2.length co22 : Value).ownBlock ∧ k_ ≠ gb200)) k_ ∧ some k_ ≠ (u2 : Value).ownBlock)) (Kd.R_types (Kd.R_apart' (Kd.R_apart' (HO208.out) (Kd.N_typed HO_7.out) (by decide)) (Kd.N_typed HO_2.out) (by decide)) BK200.out (by decide)) (fun k_ hk => ⟨⟨hk.1.1.1.1, ⟨hk.1.1.2, hk.2⟩⟩, hk.1.2⟩))).2.1 (Kd.R_F (Kd.R_mono (ok' := (fun k_ => ((fun k_ => (w.heap.size ≤ k_) ∧ some k_ ≠ (.slice Ao22 x7_2.length co22 : Value).ownBlock ∧ k_ ≠ gb200)) k_ ∧ some k_ ≠ (u2 : Value).ownBlock)) (Kd.R_types (Kd.R_apart' (Kd.R_apart' (HO208.out) (Kd.N_typed HO_7.out) (by decide)) (Kd.N_typed HO_2.out) (by decide)) BK200.out (by decide)) (fun k_ hk => ⟨⟨hk.1.1.1.1, ⟨hk.1.1.2, hk.2⟩⟩, hk.1.2⟩))))); (case aB => exact (bq1_ HB.out GE200.out)); (case aF => exact (fun k_ hk => ⟨(Nat.le_trans (below_size (bq1_ HB.out GE200.out)) hk), Kd.fresh' (Kd.N_lt (mvN_ HO_7.out)) k_ hk, Kd.freshB (g := gb200) (o := .cells #[.int .i64 ((rd_T25 l0 x17_1).f0), .slice A199_1 ((rd_T25 l0 x17_1).f1).length c199_1, .slice A199_2 ((rd_T25 l0 x17_1).f2).length c199_2] 25 (0, 0)) (mvK_ BK200.out) k_ hk⟩)); (case aO => exact (by (with_reducible repeat (first | apply Kd.N_alloc | apply Kd.N_drewN | apply Kd.N_drew)); exact Kd.N_mono HO_2.out (fun _ hk => ⟨hk.1.1, ⟨hk.1.2.1, hk.1.2.2⟩⟩))); (case aS => exact (below_size (bq1_ HB.out GE200.out))); (case aL => have := LMc20.out; omega); intro v211 w24 ho hb hg hat; rw [← Ny210.out] at ho; have HO212 := Aside0.mk (ho); replace HO_7 := Aside0.mk (Kd.N_afterv (ok := (fun k_ => (w.heap.size ≤ k_) ∧ some k_ ≠ (.slice Ao25 t206.length co25 : Value).ownBlock ∧ k_ ≠ gb200)) (by (with_reducible repeat (first | apply Kd.N_alloc | apply Kd.N_drewN | apply Kd.N_drew)); exact Kd.N_mono HO_7.out (fun _ hk => ⟨⟨hk.1.1, ⟨hk.2, hk.1.2.2⟩⟩, hk.1.2.1⟩)) hg hat); replace BK200 := Aside0.mk (blk_grown (g := gb200) (o := .cells #[.int .i64 ((rd_T25 l0 x17_1).f0), .slice A199_1 ((rd_T25 l0 x17_1).f1).length c199_1, .slice A199_2 ((rd_T25 l0 x17_1).f2).length c199_2] 25 (0, 0)) (mvK_ BK200.out) hg (Kd.N_ne HO_2.out BK200.out (by decide))); replace HB := Aside0.mk (hb); clear HO_2 HO208 ho hb hg hat))
            go_roundg k2
            case measure => have := HK1.out; have := HK2.out; omega
            case rel => exact ⟨(y210), (x3_1), (x4_1), (wrap64 (x17_1 + 1)), (by first | rfl | (simp; done) | (simp [*]; done)), (by first | rfl | (simp; done) | (simp [*]; done)), (by first | rfl | (simp; done) | (simp [*]; done)), H', ⟨by have := HK1.out; have := HK2.out; omega⟩, ⟨by (with_reducible repeat (first | apply Kd.N_alloc | apply Kd.N_drewN | apply Kd.N_drew)); exact Kd.N_mono HO212.out (fun _ hk => hk.1)⟩, ⟨bq1_ HB.out GE200.out⟩⟩
           ·rw [if_neg c20] at H
            exact absurd H (by simp)
          ·rw [if_neg c19] at H
           have c19b0 : (t209 == 0) = false := beq_eq_false_iff_ne.mpr c19
           have c19b1 : (t209 != 0) = true := bne_iff_ne.mpr c19
           simp only [Option.some.injEq, Prod.mk.injEq] at H
           obtain ⟨rfl, rfl, rfl⟩ := H
           have hcz26_0 : wr.cell? ⟨gb200, 0, none⟩ = some (.int .i64 ((rd_T25 l0 x17_1).f0)) := (blk_cell BK200.out 0).trans rfl
           have hcz26_1 : wr.cell? ⟨gb200, 1, none⟩ = some (.slice A199_1 ((rd_T25 l0 x17_1).f1).length c199_1) := (blk_cell BK200.out 1).trans rfl
           have hcz26_2 : wr.cell? ⟨gb200, 2, none⟩ = some (.slice A199_2 ((rd_T25 l0 x17_1).f2).length c199_2) := (blk_cell BK200.out 2).trans rfl
           have hfz26_0 := blk_frozen BK200.out 0
           have hfz26_1 := blk_frozen BK200.out 1
           have hfz26_2 := blk_frozen BK200.out 2
           obtain ⟨Ao27, co27, eo27⟩ := Kd.N_slice HO_7.out
           subst eo27
           go_wp2_with (first | ((with_reducible refine gate_callee (f := 11) rfl ?_); refine gL_ (some 40) Try.func11 #[.agg #[.int .i64 ((rd_T25 l0 x17_1).f0), .slice A199_1 ((rd_T25 l0 x17_1).f1).length c199_1, .slice A199_2 ((rd_T25 l0 x17_1).f2).length c199_2], .slice Ao27 x7_2.length co27] ?_; (with_reducible refine (infer_Node.calls k2 ((rd_T25 l0 x17_1).f0) _ _ ((rd_T25 l0 x17_1).f1) _ _ ((rd_T25 l0 x17_1).f2) _ _ x7_2 t206 t209 _ ?side1 ?side2 ?side3 ?side4 ?side5 ?side6 A18.out).mono ?_); (case side1 => exact mvC_ ((Kd.C_below HR199_1.out HB.out))); (case side2 => exact HC199_1.out); (case side3 => exact mvC_ ((Kd.C_below HR199_2.out HB.out))); (case side4 => exact HC199_2.out); (case side5 => exact mvC_ ((Kd.N_reads' HO_7.out).2.2)); (case side6 => exact (Kd.N_reads' HO_7.out).2.1); rintro e w28 ⟨v207, rfl, ho0, hb⟩; refine ⟨_, rfl, ?_⟩; have HO208 := Aside0.mk (Kd.R_lower (Kd.R_newM (M := fun k_ => (w.heap.size ≤ k_)) ho0 (below_size (bq1_ HB.out GE200.out)) (fun k_ h_ => h_)) (below_size (bq1_ HB.out GE200.out))); replace HO_2 := Aside0.mk (Kd.N_elder' (mvN_ HO_2.out) (Kd.R_base ho0) hb); replace HO_7 := Aside0.mk (Kd.N_elder' (mvN_ HO_7.out) (Kd.R_base ho0) hb); replace BK200 := Aside0.mk (blk_below (g := gb200) (o := .cells #[.int .i64 ((rd_T25 l0 x17_1).f0), .slice A199_1 ((rd_T25 l0 x17_1).f1).length c199_1, .slice A199_2 ((rd_T25 l0 x17_1).f2).length c199_2] 25 (0, 0)) (mvK_ BK200.out) hb); replace HB := Aside0.mk (below_step (bq1_ HB.out GE200.out) hb); (try clear hb); (try clear ho0)))
           go_ret3
           exact ⟨_, by first | rfl | (simp <;> rfl) | (simp [*] <;> rfl), by first | exact Kd.R_nil _ _ _ _ _ | exact Kd.N_nil _ _ _ _ _ | exact Kd.V_nil _ _ _ _ _ | exact Kd.Q_nil _ _ _ _ _ | exact Kd.S_nil _ _ _ _ _, bq1_ HB.out GE200.out⟩
      ·rw [if_neg c7] at H
       exact absurd H (by simp)
     ·rw [if_neg c6] at H
      exact absurd H (by simp)
    ·rw [if_neg c5] at H
     have c5b0 : decide (x17_1 < (l0.length : Int)) = false := decide_eq_false c5
     clear c5
     simp only [Option.some.injEq, Prod.mk.injEq] at H
     obtain ⟨rfl, rfl, rfl⟩ := H
     go_wp2
     go_ret3
     exact ⟨_, by first | rfl | (simp <;> rfl) | (simp [*] <;> rfl), mvN_ HO_2.out, bq0_ HB.out⟩
 ·replace c3 := Bool.eq_false_iff.mpr c3
  subst c3
  have H1 : (some (([] : List (List Int)), (-1), 100)) = some (r1, r2, r3) := by rw [if_neg (show ¬ (false = true) by decide)] at H; exact H
  clear H
  have H := H1
  clear H1
  simp only [Option.some.injEq, Prod.mk.injEq] at H
  obtain ⟨rfl, rfl, rfl⟩ := H
  go_enter Try.func13, Try.ntmps13
  go_wp2_with (first | ((with_reducible refine gate_callee (f := 17) rfl ?_); refine gL_ (some 13) Try.func17 #[.slice A0 l0.length c0] ?_; (with_reducible refine (graph_Check.calls _ _ l0 false _ ?side1 ?side2 A2.out).mono ?_); (case side1 => exact mvC_ (HR0.out)); (case side2 => exact HC0.out); rintro e w29 ⟨rfl, hb⟩; refine ⟨_, rfl, ?_⟩; replace HB := Aside0.mk (below_step (bq0_ HB.out) hb); (try clear hb)))
  go_ret3
  exact ⟨_, by first | rfl | (simp <;> rfl) | (simp [*] <;> rfl), by first | exact Kd.R_nil _ _ _ _ _ | exact Kd.N_nil _ _ _ _ _ | exact Kd.V_nil _ _ _ _ _ | exact Kd.Q_nil _ _ _ _ _ | exact Kd.S_nil _ _ _ _ _, bq0_ HB.out⟩

/-! ### fullerref02_Same: function 15 -/
def fullerref02_Same.l0 : Nat → List Int → List Int → Int → Option (Bool)
  | 0, _, _, _ => none
  | k + 1, x0, x1, x5 => if x5 < (x0.length : Int) then (if 0 ≤ x5 then (if x5 < (x1.length : Int) then (if (rd x0 x5) = (rd x1 x5) then (fullerref02_Same.l0 k x0 x1 (wrap64 (x5 + 1))) else (some false)) else (none)) else (none)) else (some true)
def fullerref02_Same.f (k : Nat) (l0 : List Int) (l1 : List Int) : Option (Bool) := if (l0.length : Int) = (l1.length : Int) then (fullerref02_Same.l0 k l0 l1 0) else (some false)
theorem fullerref02_Same.mono_l : ∀ k, (∀ y0 y1 y2, LeO (fullerref02_Same.l0 k y0 y1 y2) (fullerref02_Same.l0 (k + 1) y0 y1 y2))
  | 0 => fun _ _ _ r h => by simp [fullerref02_Same.l0] at h
  | k + 1 => by
    have ih0 := fullerref02_Same.mono_l k
    · intro y0 y1 y2
      unfold fullerref02_Same.l0
      repeat' first
      | (with_reducible exact ih0 _ _ _)
      | (with_reducible exact LeO.refl _)
      | (with_reducible exact LeO.none _)
      | (with_reducible refine LeO.ite ?_ ?_)
      | (with_reducible refine LeO.bind ?_ (fun _ => ?_))
      | exact ih0 _ _ _
      | exact LeO.none _
      | refine LeO.ite ?_ ?_
      | refine LeO.bind ?_ (fun _ => ?_)
theorem fullerref02_Same.mono : ∀ a0 a1 k, LeO (fullerref02_Same.f k a0 a1) (fullerref02_Same.f (k + 1) a0 a1) := by
  intro a0 a1 k
  have ih0 := fullerref02_Same.mono_l k
  unfold fullerref02_Same.f
  repeat' first
      | (with_reducible exact ih0 _ _ _)
      | (with_reducible exact LeO.refl _)
      | (with_reducible exact LeO.none _)
      | (with_reducible refine LeO.ite ?_ ?_)
      | (with_reducible refine LeO.bind ?_ (fun _ => ?_))
      | exact ih0 _ _ _
      | exact LeO.none _
      | refine LeO.ite ?_ ?_
      | refine LeO.bind ?_ (fun _ => ?_)
set_option maxHeartbeats 8000000 in
set_option maxRecDepth 100000 in
theorem fullerref02_Same.calls (k : Nat) (A0 : Option Addr) (c0 : Nat) (l0 : List Int) (A1 : Option Addr) (c1 : Nat) (l1 : List Int) (r : Bool) (w : World) (hr0 : Kd.C (Kd.int .i64) w A0 l0.length l0) (hc0 : l0.length ≤ c0) (hr1 : Kd.C (Kd.int .i64) w A1 l1.length l1) (hc1 : l1.length ≤ c1) (h : fullerref02_Same.f k l0 l1 = some r) :
    Calls Try.prog 15 #[.slice A0 l0.length c0, .slice A1 l1.length c1] w fun e w' => e = .returned (.bool r) ∧ Drawn0 w w' := by
  have HR0 := Aside0.mk hr0
  have HC0 := Aside0.mk hc0
  clear hr0 hc0
  have HR1 := Aside0.mk hr1
  have HC1 := Aside0.mk hc1
  clear hr1 hc1
  have H : (if (l0.length : Int) = (l1.length : Int) then (fullerref02_Same.l0 k l0 l1 0) else (some false)) = some r := h
  clear h
  by_cases c3 : (l0.length : Int) = (l1.length : Int)
  · rw [if_pos c3] at H
    have c3b0 : ((l0.length : Int) == (l1.length : Int)) = true := beq_iff_eq.mpr c3
    have c3b1 : ((l0.length : Int) != (l1.length : Int)) = false := bne_eq_false_iff_eq.mpr c3
    have c3b2 : (l0.length == l1.length) = true := by first | simpa using c3 | (simp at c3 ⊢; omega)
    clear c3
    have H' := Aside0.mk H
    clear H
    go_enter Try.func15, Try.ntmps15
    go_wp2
    repeat (go_quiet (fail); try go_wp2)
    go_loopg [5] k (fun kq v5 w' => ∃ (x5_1 : Int), v5 = .int .i64 x5_1 ∧ Aside0 (fullerref02_Same.l0 kq l0 l1 x5_1 = some r) ∧ Aside0 (kq ≤ k) ∧ Drawn0 w w')
    case atStart => exact ⟨(0), (by first | rfl | (simp; done) | (simp [*]; done)), H', ⟨Nat.le_refl _⟩, by repeat (first | exact Drawn0.refl _ | apply Drawn0.step)⟩
    case round =>
      clear H'
      try clear c1
      try clear p2
      try clear c3
      try clear c3b0
      try clear c3b1
      try clear c3b2
      obtain ⟨x5_1, rfl, HA, HK1, ⟨m1, rfl⟩⟩ := hrel
      cases gk with
      | zero => exact absurd HA.out (by simp [fullerref02_Same.l0])
      | succ k1 =>
        have H := HA.out
        clear HA
        simp only [fullerref02_Same.l0] at H
        by_cases c4 : x5_1 < (l0.length : Int)
        · rw [if_pos c4] at H
          have c4b0 : decide (x5_1 < (l0.length : Int)) = true := decide_eq_true c4
          clear c4
          by_cases c5 : 0 ≤ x5_1
          · rw [if_pos c5] at H
            have c5b0 : decide (0 ≤ x5_1) = true := decide_eq_true c5
            clear c5
            by_cases c6 : x5_1 < (l1.length : Int)
            · rw [if_pos c6] at H
              have c6b0 : decide (x5_1 < (l1.length : Int)) = true := decide_eq_true c6
              clear c6
              by_cases c7 : (rd l0 x5_1) = (rd l1 x5_1)
              · rw [if_pos c7] at H
                obtain ⟨c7b0, c7b1⟩ := eqT_ c7
                clear c7
                have H' := Aside0.mk H
                clear H
                have p213 : 0 ≤ (x5_1 : Int) := of_decide_eq_true (by first | (with_reducible assumption) | assumption)
                have q213 : x5_1 < (l0.length : Int) := of_decide_eq_true (by first | (with_reducible assumption) | assumption)
                obtain ⟨ad213, e213, hx213_0⟩ := Kd.at_int HR0.out x5_1 p213 q213
                cases e213
                replace p213 := eq_true p213
                replace q213 := eq_true q213
                have p214 : 0 ≤ (x5_1 : Int) := of_decide_eq_true (by first | (with_reducible assumption) | assumption)
                have q214 : x5_1 < (l1.length : Int) := of_decide_eq_true (by first | (with_reducible assumption) | assumption)
                obtain ⟨ad214, e214, hx214_0⟩ := Kd.at_int HR1.out x5_1 p214 q214
                cases e214
                replace p214 := eq_true p214
                replace q214 := eq_true q214
                go_wp2
                repeat (go_quiet (fail); try go_wp2)
                go_roundg k1
                case measure => have := HK1.out; omega
                case rel => exact ⟨(wrap64 (x5_1 + 1)), (by first | rfl | (simp; done) | (simp [*]; done)), H', ⟨by have := HK1.out; omega⟩, by repeat (first | exact Drawn0.refl _ | apply Drawn0.step)⟩
              · rw [if_neg c7] at H
                have c7b0 : ((rd l0 x5_1) == (rd l1 x5_1)) = false := beq_eq_false_iff_ne.mpr c7
                have c7b1 : ((rd l0 x5_1) != (rd l1 x5_1)) = true := bne_iff_ne.mpr c7
                obtain rfl := Option.some.inj H
                have p213 : 0 ≤ (x5_1 : Int) := of_decide_eq_true (by first | (with_reducible assumption) | assumption)
                have q213 : x5_1 < (l0.length : Int) := of_decide_eq_true (by first | (with_reducible assumption) | assumption)
                obtain ⟨ad213, e213, hx213_0⟩ := Kd.at_int HR0.out x5_1 p213 q213
                cases e213
                replace p213 := eq_true p213
                replace q213 := eq_true q213
                have p214 : 0 ≤ (x5_1 : Int) := of_decide_eq_true (by first | (with_reducible assumption) | assumption)
                have q214 : x5_1 < (l1.length : Int) := of_decide_eq_true (by first | (with_reducible assumption) | assumption)
                obtain ⟨ad214, e214, hx214_0⟩ := Kd.at_int HR1.out x5_1 p214 q214
                cases e214
                replace p214 := eq_true p214
                replace q214 := eq_true q214
                go_wp2
                repeat (go_quiet (fail); try go_wp2)
                go_ret
                exact ⟨by first | rfl | (simp; done) | (simp [*]; done), by repeat (first | exact Drawn0.refl _ | apply Drawn0.step)⟩
            · rw [if_neg c6] at H
              exact absurd H (by simp)
          · rw [if_neg c5] at H
            exact absurd H (by simp)
        · rw [if_neg c4] at H
          have c4b0 : decide (x5_1 < (l0.length : Int)) = false := decide_eq_false c4
          clear c4
          obtain rfl := Option.some.inj H
          go_wp2
          repeat (go_quiet (fail); try go_wp2)
          go_ret
          exact ⟨by first | rfl | (simp; done) | (simp [*]; done), by repeat (first | exact Drawn0.refl _ | apply Drawn0.step)⟩
  · rw [if_neg c3] at H
    have c3b0 : ((l0.length : Int) == (l1.length : Int)) = false := beq_eq_false_iff_ne.mpr c3
    have c3b1 : ((l0.length : Int) != (l1.length : Int)) = true := bne_iff_ne.mpr c3
    have c3b2 : (l0.length == l1.length) = false := by first | simpa using c3 | (simp at c3 ⊢; omega)
    obtain rfl := Option.some.inj H
    go_enter Try.func15, Try.ntmps15
    go_wp2
    repeat (go_quiet (fail); try go_wp2)
    go_ret
    exact ⟨by first | rfl | (simp; done) | (simp [*]; done), by repeat (first | exact Drawn0.refl _ | apply Drawn0.step)⟩

def L16_0 : Array Bool := #[false, false, false, false, false, false, false, false, false, false]
def L16_1 : Array Bool := #[true, false, false, false, false, false, false, false, false, false]
def L16_2 : Array Bool := #[true, true, false, false, false, false, false, false, false, false]
def L16_3 : Array Bool := #[true, true, true, false, false, false, false, false, false, false]
def L16_4 : Array Bool := #[true, true, true, false, true, false, false, false, false, false]
def L16_5 : Array Bool := #[true, true, true, false, true, true, false, false, false, false]
def L16_6 : Array Bool := #[true, true, true, false, true, true, true, false, false, false]
def L16_7 : Array Bool := #[true, true, true, true, true, true, true, false, false, false]
def L16_8 : Array Bool := #[true, true, true, true, true, true, true, true, false, false]
def L16_9 : Array Bool := #[true, true, true, true, true, true, true, true, true, false]
def L16_10 : Array Bool := #[true, true, true, true, true, true, true, true, true, true]
/-! ### fullerref11_Same: function 16 -/
def fullerref11_Same.l0 : Nat → List (List Int) → List (List Int) → Int → Option (Bool)
 | 0, _, _, _ => none
 | k + 1, x0, x1, x5 => if x5 < (x0.length : Int) then (if 0 ≤ x5 then (if x5 < (x1.length : Int) then ((fullerref02_Same.f k (rd_L1 x0 x5) (rd_L1 x1 x5)).bind fun t217 => (if t217 = true then (fullerref11_Same.l0 k x0 x1 (wrap64 (x5 + 1))) else (some false))) else (none)) else (none)) else (some true)
def fullerref11_Same.f (k : Nat) (l0 : List (List Int)) (l1 : List (List Int)) : Option (Bool) := if (l0.length : Int) = (l1.length : Int) then (fullerref11_Same.l0 k l0 l1 0) else (some false)
theorem fullerref11_Same.mono_l : ∀ k, (∀ y0 y1 y2, LeO (fullerref11_Same.l0 k y0 y1 y2) (fullerref11_Same.l0 (k + 1) y0 y1 y2))
 | 0 => fun _ _ _ r h => by simp [fullerref11_Same.l0] at h
 | k + 1 => by
  have ih0 := fullerref11_Same.mono_l k
  ·intro y0 y1 y2
   unfold fullerref11_Same.l0
   repeat' first
   | (with_reducible exact ih0 _ _ _)
   | (with_reducible exact fullerref02_Same.mono _ _ _)
   | (with_reducible exact LeO.refl _)
   | (with_reducible exact LeO.none _)
   | (with_reducible refine LeO.ite ?_ ?_)
   | (with_reducible refine LeO.bind ?_ (fun _ => ?_))
   | exact ih0 _ _ _
   | exact fullerref02_Same.mono _ _ _
   | exact LeO.none _
   | refine LeO.ite ?_ ?_
   | refine LeO.bind ?_ (fun _ => ?_)
theorem fullerref11_Same.mono : ∀ a0 a1 k, LeO (fullerref11_Same.f k a0 a1) (fullerref11_Same.f (k + 1) a0 a1) := by
 intro a0 a1 k
 have ih0 := fullerref11_Same.mono_l k
 unfold fullerref11_Same.f
 repeat' first
   | (with_reducible exact ih0 _ _ _)
   | (with_reducible exact fullerref02_Same.mono _ _ _)
   | (with_reducible exact LeO.refl _)
   | (with_reducible exact LeO.none _)
   | (with_reducible refine LeO.ite ?_ ?_)
   | (with_reducible refine LeO.bind ?_ (fun _ => ?_))
   | exact ih0 _ _ _
   | exact fullerref02_Same.mono _ _ _
   | exact LeO.none _
   | refine LeO.ite ?_ ?_
   | refine LeO.bind ?_ (fun _ => ?_)
def fullerref11_Same.T6 : Bool × List (List Nat × List Nat) := (true, [([], []), ([], []), ([0, 1], [0, 1]), ([2], [2]), ([], []), ([], []), ([4, 5], [4, 5]), ([6], [6]), ([3, 7], [3, 7]), ([8], [8])])
def fullerref11_Same.B6 : List Nat := [0, 0, 3, 7, 0, 0, 48, 112, 255, 511]
theorem fullerref11_Same.tab6 : rtab .any (opsOf Try.f16 6) = fullerref11_Same.T6 := by kernel_rfl
theorem fullerref11_Same.bits6 : waitsOk fullerref11_Same.T6.2 fullerref11_Same.B6 = true := by kernel_rfl
set_option maxHeartbeats 8000000 in
set_option maxRecDepth 100000 in
theorem fullerref11_Same.calls (k : Nat) (A0 : Option Addr) (c0 : Nat) (l0 : List (List Int)) (A1 : Option Addr) (c1 : Nat) (l1 : List (List Int)) (r : Bool) (w : World) (hr0 : Kd.C (Kd.slice 3 (Kd.int .i64)) w A0 l0.length l0) (hc0 : l0.length ≤ c0) (hr1 : Kd.C (Kd.slice 3 (Kd.int .i64)) w A1 l1.length l1) (hc1 : l1.length ≤ c1) (h : fullerref11_Same.f k l0 l1 = some r) :
  Calls Try.prog 16 #[.slice A0 l0.length c0, .slice A1 l1.length c1] w fun e w' => e = .returned (.bool r) ∧ Below w.heap.size w w' := by
 have HR0 := Aside0.mk hr0
 have HC0 := Aside0.mk hc0
 clear hr0 hc0
 have HR1 := Aside0.mk hr1
 have HC1 := Aside0.mk hc1
 clear hr1 hc1
 have HB := Aside0.mk (Below.refl w.heap.size w)
 have H : (if (l0.length : Int) = (l1.length : Int) then (fullerref11_Same.l0 k l0 l1 0) else (some false)) = some r := h
 clear h
 by_cases c3 : (l0.length : Int) = (l1.length : Int)
 ·rw [if_pos c3] at H
  have c3b0 : ((l0.length : Int) == (l1.length : Int)) = true := beq_iff_eq.mpr c3
  have c3b1 : ((l0.length : Int) != (l1.length : Int)) = false := bne_eq_false_iff_eq.mpr c3
  have c3b2 : (l0.length == l1.length) = true := by first | simpa using c3 | (simp at c3 ⊢; omega)
  clear c3
  have H' := Aside0.mk H
  clear H
  go_enter Try.func16, Try.ntmps16
  go_wp2
  go_loopg [5] k (fun kq v5 w' => ∃ (x5_1 : Int), v5 = .int .i64 x5_1 ∧ Aside0 (fullerref11_Same.l0 kq l0 l1 x5_1 = some r) ∧ Aside0 (kq ≤ k) ∧ Aside0 (Below w.heap.size w w'))
  case atStart => exact ⟨(0), (by first | rfl | (simp; done) | (simp [*]; done)), H', ⟨Nat.le_refl _⟩, ⟨bq0_ HB.out⟩⟩
  case round =>
   clear H'
   try clear c1
   try clear p2
   try clear c3
   try clear c3b0
   try clear c3b1
   try clear c3b2
   obtain ⟨x5_1, rfl, HA, HK1, HB⟩ := hrel
   cases gk with
   | zero => exact absurd HA.out (by simp [fullerref11_Same.l0])
   | succ k1 =>
    have H := HA.out
    clear HA
    simp only [fullerref11_Same.l0] at H
    by_cases c4 : x5_1 < (l0.length : Int)
    ·rw [if_pos c4] at H
     have c4b0 : decide (x5_1 < (l0.length : Int)) = true := decide_eq_true c4
     clear c4
     by_cases c5 : 0 ≤ x5_1
     ·rw [if_pos c5] at H
      have c5b0 : decide (0 ≤ x5_1) = true := decide_eq_true c5
      clear c5
      by_cases c6 : x5_1 < (l1.length : Int)
      ·rw [if_pos c6] at H
       have c6b0 : decide (x5_1 < (l1.length : Int)) = true := decide_eq_true c6
       clear c6
       replace H := Option.bind_eq_some_iff.mp H
       obtain ⟨t217, A70, H⟩ := H
       replace H : (if t217 = true then (fullerref11_Same.l0 k1 l0 l1 (wrap64 (x5_1 + 1))) else (some false)) = some r := H
       have A7 := Aside0.mk A70
       clear A70
       by_cases c8 : t217 = true
       ·subst c8
        have H1 : (fullerref11_Same.l0 k1 l0 l1 (wrap64 (x5_1 + 1))) = some r := by rw [if_pos rfl] at H; exact H
        clear H
        have H := H1
        clear H1
        have H' := Aside0.mk H
        clear H
        try go_wp2
        replace HB := Aside0.mk (below_drew1 HB.out)
        have p215 : 0 ≤ (x5_1 : Int) := od_
        have q215 : x5_1 < (l0.length : Int) := od_
        obtain ⟨ad215, A215_0, c215_0, e215, hx215_0, hl215_0, hi215_0⟩ := at_L1 HR0.out x5_1 p215 q215
        have hw215_0 := hx215_0
        cases e215
        replace hx215_0 := (HB.out.cell (World.block_lt_of_cell? w _ hx215_0)).trans hx215_0
        have HR215_0 := Aside0.mk hi215_0
        have HC215_0 := Aside0.mk hl215_0
        clear hi215_0 hl215_0
        replace p215 := eq_true p215
        replace q215 := eq_true q215
        have p216 : 0 ≤ (x5_1 : Int) := od_
        have q216 : x5_1 < (l1.length : Int) := od_
        obtain ⟨ad216, A216_0, c216_0, e216, hx216_0, hl216_0, hi216_0⟩ := at_L1 HR1.out x5_1 p216 q216
        have hw216_0 := hx216_0
        cases e216
        replace hx216_0 := (HB.out.cell (World.block_lt_of_cell? w _ hx216_0)).trans hx216_0
        have HR216_0 := Aside0.mk hi216_0
        have HC216_0 := Aside0.mk hl216_0
        clear hi216_0 hl216_0
        replace p216 := eq_true p216
        replace q216 := eq_true q216
        refine start_ (n := 10) (S := fun w' => w'.cell? (ad215.add (x5_1).toNat) = some (.slice A215_0 (rd_L1 l0 x5_1).length c215_0) ∧ w'.cell? (ad216.add (x5_1).toNat) = some (.slice A216_0 (rd_L1 l1 x5_1).length c216_0)) (ds := []) L16_0 (by kernel_rfl) rfl rfl ⟨((HB.out.cell (World.block_lt_of_cell? w _ hw215_0)).trans hw215_0), ((HB.out.cell (World.block_lt_of_cell? w _ hw216_0)).trans hw216_0)⟩ (fun hHeld => ?_); refine with_tabW fullerref11_Same.tab6 fullerref11_Same.bits6 (fun HT_ HW_ => ?_)
        generalize wr.drew = w9 at HB HR215_0 HR216_0 hx215_0 hx216_0 hHeld ⊢
        refine pu_ 0 (some 17) L16_1 HT_ ?_
        refine pu_ 1 (some 18) L16_2 HT_ ?_
        refine pu_ 2 (some 19) L16_3 HT_ ?_
        refine pu_ 4 (some 21) L16_4 HT_ ?_
        refine pu_ 5 (some 22) L16_5 HT_ ?_
        refine pu_ 6 (some 23) L16_6 HT_ ?_
        refine ta_ 3 (some 20) L16_7 HT_ HW_ hHeld ?_ (hy := by rintro w' ⟨s0, s1⟩; go_simp; with_reducible rfl)
        refine ta_ 7 (some 24) L16_8 HT_ HW_ hHeld ?_ (hy := by rintro w' ⟨s0, s1⟩; go_simp; with_reducible rfl)
        refine one_ (i := 8) (N := some 25) L16_9 rfl rfl (one_of HT_.out (by kernel_rfl)) (by decide) (fun K hK => ?_)
        refine goes_ Try.func15 (by kernel_rfl) rfl #[.slice A215_0 (rd_L1 l0 x5_1).length c215_0, .slice A216_0 (rd_L1 l1 x5_1).length c216_0] (by rfl) rfl rfl (by (try simp only [List.map_toArray, List.map_cons, List.map_nil]); first | done | rfl | (simp only [List.length_drop, List.length_take]; rfl)) ?_
        with_reducible refine (fullerref02_Same.calls k1 _ _ (rd_L1 l0 x5_1) _ _ (rd_L1 l1 x5_1) true _ ?side1 ?side2 ?side3 ?side4 A7.out).mono ?_
        (case side1 => exact mvC_ ((Kd.C_below HR215_0.out HB.out)))
        (case side2 => exact HC215_0.out)
        (case side3 => exact mvC_ ((Kd.C_below HR216_0.out HB.out)))
        (case side4 => exact HC216_0.out)
        rintro e w' ⟨rfl, ⟨nd, rfl⟩⟩
        refine ⟨_, rfl, ?_⟩
        refine hK.out _ _ ⟨((HB.out.cell (World.block_lt_of_cell? w _ hw215_0)).trans hw215_0), ((HB.out.cell (World.block_lt_of_cell? w _ hw216_0)).trans hw216_0)⟩ (fun hHeld => ?_)
        clear hK K
        refine norm_ (a' := ?_) ?_ ?_
        rotate_left
        ·show Act.put _ (some 25) _ = _
         simp only [Act.put, sA_, sB_, sC_, i64_w, i32_w]
         rfl
        refine pu_ 9 (some 26) L16_10 HT_ ?_
        refine done_ (done_of HT_.out (by kernel_rfl)) ?_
        try go_wp2
        go_roundg k1
        case measure => have := HK1.out; omega
        case rel => exact ⟨(wrap64 (x5_1 + 1)), (by first | rfl | (simp; done) | (simp [*]; done)), H', ⟨by have := HK1.out; omega⟩, ⟨bq0_ HB.out⟩⟩
       ·replace c8 := Bool.eq_false_iff.mpr c8
        subst c8
        have H1 : (some false) = some r := by rw [if_neg (show ¬ (false = true) by decide)] at H; exact H
        clear H
        have H := H1
        clear H1
        obtain rfl := Option.some.inj H
        try go_wp2
        replace HB := Aside0.mk (below_drew1 HB.out)
        have p215 : 0 ≤ (x5_1 : Int) := od_
        have q215 : x5_1 < (l0.length : Int) := od_
        obtain ⟨ad215, A215_0, c215_0, e215, hx215_0, hl215_0, hi215_0⟩ := at_L1 HR0.out x5_1 p215 q215
        have hw215_0 := hx215_0
        cases e215
        replace hx215_0 := (HB.out.cell (World.block_lt_of_cell? w _ hx215_0)).trans hx215_0
        have HR215_0 := Aside0.mk hi215_0
        have HC215_0 := Aside0.mk hl215_0
        clear hi215_0 hl215_0
        replace p215 := eq_true p215
        replace q215 := eq_true q215
        have p216 : 0 ≤ (x5_1 : Int) := od_
        have q216 : x5_1 < (l1.length : Int) := od_
        obtain ⟨ad216, A216_0, c216_0, e216, hx216_0, hl216_0, hi216_0⟩ := at_L1 HR1.out x5_1 p216 q216
        have hw216_0 := hx216_0
        cases e216
        replace hx216_0 := (HB.out.cell (World.block_lt_of_cell? w _ hx216_0)).trans hx216_0
        have HR216_0 := Aside0.mk hi216_0
        have HC216_0 := Aside0.mk hl216_0
        clear hi216_0 hl216_0
        replace p216 := eq_true p216
        replace q216 := eq_true q216
        refine start_ (n := 10) (S := fun w' => w'.cell? (ad215.add (x5_1).toNat) = some (.slice A215_0 (rd_L1 l0 x5_1).length c215_0) ∧ w'.cell? (ad216.add (x5_1).toNat) = some (.slice A216_0 (rd_L1 l1 x5_1).length c216_0)) (ds := []) L16_0 (by kernel_rfl) rfl rfl ⟨((HB.out.cell (World.block_lt_of_cell? w _ hw215_0)).trans hw215_0), ((HB.out.cell (World.block_lt_of_cell? w _ hw216_0)).trans hw216_0)⟩ (fun hHeld => ?_); refine with_tabW fullerref11_Same.tab6 fullerref11_Same.bits6 (fun HT_ HW_ => ?_)
        generalize wr.drew = w10 at HB HR215_0 HR216_0 hx215_0 hx216_0 hHeld ⊢
        refine pu_ 0 (some 17) L16_1 HT_ ?_
        refine pu_ 1 (some 18) L16_2 HT_ ?_
        refine pu_ 2 (some 19) L16_3 HT_ ?_
        refine pu_ 4 (some 21) L16_4 HT_ ?_
        refine pu_ 5 (some 22) L16_5 HT_ ?_
        refine pu_ 6 (some 23) L16_6 HT_ ?_
        refine ta_ 3 (some 20) L16_7 HT_ HW_ hHeld ?_ (hy := by rintro w' ⟨s0, s1⟩; go_simp; with_reducible rfl)
        refine ta_ 7 (some 24) L16_8 HT_ HW_ hHeld ?_ (hy := by rintro w' ⟨s0, s1⟩; go_simp; with_reducible rfl)
        refine one_ (i := 8) (N := some 25) L16_9 rfl rfl (one_of HT_.out (by kernel_rfl)) (by decide) (fun K hK => ?_)
        refine goes_ Try.func15 (by kernel_rfl) rfl #[.slice A215_0 (rd_L1 l0 x5_1).length c215_0, .slice A216_0 (rd_L1 l1 x5_1).length c216_0] (by rfl) rfl rfl (by (try simp only [List.map_toArray, List.map_cons, List.map_nil]); first | done | rfl | (simp only [List.length_drop, List.length_take]; rfl)) ?_
        with_reducible refine (fullerref02_Same.calls k1 _ _ (rd_L1 l0 x5_1) _ _ (rd_L1 l1 x5_1) false _ ?side1 ?side2 ?side3 ?side4 A7.out).mono ?_
        (case side1 => exact mvC_ ((Kd.C_below HR215_0.out HB.out)))
        (case side2 => exact HC215_0.out)
        (case side3 => exact mvC_ ((Kd.C_below HR216_0.out HB.out)))
        (case side4 => exact HC216_0.out)
        rintro e w' ⟨rfl, ⟨nd, rfl⟩⟩
        refine ⟨_, rfl, ?_⟩
        refine hK.out _ _ ⟨((HB.out.cell (World.block_lt_of_cell? w _ hw215_0)).trans hw215_0), ((HB.out.cell (World.block_lt_of_cell? w _ hw216_0)).trans hw216_0)⟩ (fun hHeld => ?_)
        clear hK K
        refine norm_ (a' := ?_) ?_ ?_
        rotate_left
        ·show Act.put _ (some 25) _ = _
         simp only [Act.put, sA_, sB_, sC_, i64_w, i32_w]
         rfl
        refine pu_ 9 (some 26) L16_10 HT_ ?_
        refine done_ (done_of HT_.out (by kernel_rfl)) ?_
        try go_wp2
        go_ret
        exact ⟨by first | rfl | (simp <;> rfl) | (simp [*] <;> rfl), bq0_ HB.out⟩
      ·rw [if_neg c6] at H
       exact absurd H (by simp)
     ·rw [if_neg c5] at H
      exact absurd H (by simp)
    ·rw [if_neg c4] at H
     have c4b0 : decide (x5_1 < (l0.length : Int)) = false := decide_eq_false c4
     clear c4
     obtain rfl := Option.some.inj H
     go_wp2
     go_ret
     exact ⟨by first | rfl | (simp <;> rfl) | (simp [*] <;> rfl), bq0_ HB.out⟩
 ·rw [if_neg c3] at H
  have c3b0 : ((l0.length : Int) == (l1.length : Int)) = false := beq_eq_false_iff_ne.mpr c3
  have c3b1 : ((l0.length : Int) != (l1.length : Int)) = true := bne_iff_ne.mpr c3
  have c3b2 : (l0.length == l1.length) = false := by first | simpa using c3 | (simp at c3 ⊢; omega)
  obtain rfl := Option.some.inj H
  go_enter Try.func16, Try.ntmps16
  go_wp2
  go_ret
  exact ⟨by first | rfl | (simp <;> rfl) | (simp [*] <;> rfl), bq0_ HB.out⟩

end Go.Proofs.Ytalmgghhpgfgoaa.A
