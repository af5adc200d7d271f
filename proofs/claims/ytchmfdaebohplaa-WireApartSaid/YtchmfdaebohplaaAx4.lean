/- Lean functions that answer as the Go functions do, and the proofs that they do; no conditions. Written by this session's own driver: a scratch copy of the kit's print with the session's additions (wip/xprint). -/
import Derived.Test.YtchmfdaebohplaaAx0
import Derived.Test.YtchmfdaebohplaaAx2
import Derived.Test.YtchmfdaebohplaaAx3
namespace Go.Proofs.Ytchmfdaebohplaa.A
open Go.RowKit Go.Proofs.YtchmfdaebohplaaW.PrintWords Go.Proofs.YtchmfdaebohplaaW.PrintLast Go.Proofs.YtchmfdaebohplaaW.PrintMore
attribute [local go_sem] max2_int min2_int max_two min_two max_three min_three max_four min_four   -- for this text's walks alone
set_option linter.unusedVariables false
set_option linter.unusedSimpArgs false

def L9_0 : Array Bool := #[false, false, false, false, false, false, false, false, false, false, false, false]
def L9_1 : Array Bool := #[true, false, false, false, false, false, false, false, false, false, false, false]
def L9_2 : Array Bool := #[true, true, false, false, false, false, false, false, false, false, false, false]
def L9_3 : Array Bool := #[true, true, false, false, false, true, false, false, false, false, false, false]
def L9_4 : Array Bool := #[true, true, true, false, false, true, false, false, false, false, false, false]
def L9_5 : Array Bool := #[true, true, true, false, false, true, true, false, false, false, false, false]
def L9_6 : Array Bool := #[true, true, true, true, false, true, true, false, false, false, false, false]
def L9_7 : Array Bool := #[true, true, true, true, true, true, true, false, false, false, false, false]
def L9_8 : Array Bool := #[true, true, true, true, true, true, true, true, false, false, false, false]
def L9_9 : Array Bool := #[true, true, true, true, true, true, true, true, true, false, false, false]
def L9_10 : Array Bool := #[true, true, true, true, true, true, true, true, true, true, false, false]
def L9_11 : Array Bool := #[true, true, true, true, true, true, true, true, true, true, true, false]
def L9_12 : Array Bool := #[true, true, true, true, true, true, true, true, true, true, true, true]
/-! ### wire_Write: function 9 -/
def wire_Write.l0 : Nat → List Int → List (S36) → Int → Int → Option (List Int × Int)
  | 0, _, _, _, _ => none
  | k + 1, x4, x14, x15, x16 => if x16 < x15 then (if 0 ≤ x16 then (if x16 < (x14.length : Int) then ((wire_put.f k x4 (([(rd_T36 x14 x16).f0] : List Int))).bind fun t133 => ((pack_List.f t133 ((rd_T36 x14 x16).f1) 1).bind fun bt136 => ((pack_List.f bt136.1 ((rd_T36 x14 x16).f2) 8).bind fun bt140 => (wire_Write.l0 k bt140.1 x14 x15 (wrap64 (x16 + 1)))))) else (none)) else (none)) else (some (x4, 0))
def wire_Write.f (k : Nat) (l0 : List (S36)) : Option (List Int × Int) := (graph_Check.f l0).bind fun t121 => (if t121 = true then ((wire_put.f k ([] : List Int) (([(l0.length : Int)] : List Int))).bind fun t125 => (wire_Write.l0 k t125 l0 (l0.length : Int) 0)) else (some (([] : List Int), 100)))
theorem wire_Write.mono_l : ∀ k, (∀ y0 y1 y2 y3, LeO (wire_Write.l0 k y0 y1 y2 y3) (wire_Write.l0 (k + 1) y0 y1 y2 y3))
  | 0 => fun _ _ _ _ r h => by simp [wire_Write.l0] at h
  | k + 1 => by
    have ih0 := wire_Write.mono_l k
    · intro y0 y1 y2 y3
      unfold wire_Write.l0
      repeat' first
      | (with_reducible exact ih0 _ _ _ _)
      | (with_reducible exact wire_put.mono _ _ _)
      | (with_reducible exact LeO.refl _)
      | (with_reducible exact LeO.none _)
      | (with_reducible refine LeO.ite ?_ ?_)
      | (with_reducible refine LeO.bind ?_ (fun _ => ?_))
      | exact ih0 _ _ _ _
      | exact wire_put.mono _ _ _
      | exact LeO.none _
      | refine LeO.ite ?_ ?_
      | refine LeO.bind ?_ (fun _ => ?_)
theorem wire_Write.mono : ∀ a0 k, LeO (wire_Write.f k a0) (wire_Write.f (k + 1) a0) := by
  intro a0 k
  have ih0 := wire_Write.mono_l k
  unfold wire_Write.f
  repeat' first
      | (with_reducible exact ih0 _ _ _ _)
      | (with_reducible exact wire_put.mono _ _ _)
      | (with_reducible exact LeO.refl _)
      | (with_reducible exact LeO.none _)
      | (with_reducible refine LeO.ite ?_ ?_)
      | (with_reducible refine LeO.bind ?_ (fun _ => ?_))
      | exact ih0 _ _ _ _
      | exact wire_put.mono _ _ _
      | exact LeO.none _
      | refine LeO.ite ?_ ?_
      | refine LeO.bind ?_ (fun _ => ?_)
def wire_Write.T7 : Bool × List (List Nat × List Nat) := (true, [([], []), ([], []), ([1], [1]), ([2], [2]), ([0, 3], [0, 3]), ([], []), ([5], [5]), ([4, 6, 4], [4, 6]), ([7], [7]), ([8], [8]), ([8], [8]), ([9, 7, 0, 1, 2, 3, 4, 5, 6, 7, 8, 9], [0, 9])])
def wire_Write.B7 : List Nat := [0, 0, 2, 6, 15, 0, 32, 127, 255, 511, 511, 1023]
theorem wire_Write.tab7 : rtab .any (opsOf Try.f9 7) = wire_Write.T7 := by kernel_rfl
theorem wire_Write.bits7 : waitsOk wire_Write.T7.2 wire_Write.B7 = true := by kernel_rfl
set_option maxHeartbeats 8000000 in
set_option maxRecDepth 100000 in
theorem wire_Write.calls (k : Nat) (A0 : Option Addr) (c0 : Nat) (l0 : List (S36)) (r1 : List Int) (r2 : Int) (w : World) (hr0 : Kd.C k36 w A0 l0.length l0) (hc0 : l0.length ≤ c0) (h : wire_Write.f k l0 = some (r1, r2)) :
    Calls Try.prog 9 #[.slice A0 l0.length c0] w fun e w' => ∃ v0_ : Value, e = .returned (.tuple #[v0_, .int .i64 r2]) ∧ Kd.R (Kd.int .u8) 5 w' w.heap.size (fun _ => True) v0_ r1 ∧ Below w.heap.size w w' := by
  have hu36 := Try.underlying36
  have HR0 := Aside0.mk hr0
  have HC0 := Aside0.mk hc0
  clear hr0 hc0
  have HB := Aside0.mk (Below.refl w.heap.size w)
  have H : ((graph_Check.f l0).bind fun t121 => (if t121 = true then ((wire_put.f k ([] : List Int) (([(l0.length : Int)] : List Int))).bind fun t125 => (wire_Write.l0 k t125 l0 (l0.length : Int) 0)) else (some (([] : List Int), 100)))) = some (r1, r2) := h
  clear h
  replace H := Option.bind_eq_some_iff.mp H
  obtain ⟨t121, A20, H⟩ := H
  replace H : (if t121 = true then ((wire_put.f k ([] : List Int) (([(l0.length : Int)] : List Int))).bind fun t125 => (wire_Write.l0 k t125 l0 (l0.length : Int) 0)) else (some (([] : List Int), 100))) = some (r1, r2) := H
  have A2 := Aside0.mk A20
  clear A20
  by_cases c3 : t121 = true
  · subst c3
    have H1 : ((wire_put.f k ([] : List Int) (([(l0.length : Int)] : List Int))).bind fun t125 => (wire_Write.l0 k t125 l0 (l0.length : Int) 0)) = some (r1, r2) := by rw [if_pos rfl] at H; exact H
    clear H
    have H := H1
    clear H1
    obtain ⟨y122, hy122⟩ : ∃ y_ : List Int, y_ = (([(l0.length : Int)] : List Int)) := ⟨_, rfl⟩
    replace H : ((wire_put.f k ([] : List Int) y122).bind fun t125 => (wire_Write.l0 k t125 l0 (l0.length : Int) 0)) = some (r1, r2) := by first | (rw [hy122]; with_reducible exact H) | (have H2_ := (Option.bind_some _ _).symm.trans H; rw [hy122]; with_reducible exact H2_) | (have H2_ := (Option.bind_some _ _).symm.trans H; with_reducible exact H2_) | with_reducible exact H | (rw [hy122]; exact H) | exact H
    have Ny122 := Aside0.mk hy122
    clear hy122
    replace H := Option.bind_eq_some_iff.mp H
    obtain ⟨t125, A40, H⟩ := H
    replace H : (wire_Write.l0 k t125 l0 (l0.length : Int) 0) = some (r1, r2) := H
    have A4 := Aside0.mk A40
    clear A40
    have H' := Aside0.mk H
    clear H
    go_enter Try.func9, Try.ntmps9
    go_wp2_with (first | ((with_reducible refine gate_callee (f := 14) rfl ?_); refine goesL_ (some 8) rfl rfl Try.func14 (by kernel_rfl) rfl #[.slice A0 l0.length c0] rfl (by (try simp only [List.map_toArray, List.map_cons, List.map_nil]); first | done | rfl | (simp only [List.length_drop, List.length_take]; rfl)) ?_; (with_reducible refine (graph_Check.calls _ _ l0 true _ ?side1 ?side2 A2.out).mono ?_); (case side1 => exact mvC_ (HR0.out)); (case side2 => exact HC0.out); rintro e w5 ⟨rfl, hb⟩; refine ⟨_, rfl, ?_⟩; have n0_ := Aside0.mk (below_step (bq0_ HB.out) hb); clear HB; have HB := n0_; clear n0_; (try clear hb)) | ((with_reducible refine gate_dst (N := 12) rfl ?_); refine Kd.R_lit (Kd.int .i64) _ 3 ?hg (N := 12) ?hd (xs := ([(l0.length : Int)] : List Int)) (inner := [.int .i64 (l0.length : Int)]) (ok := fun _ => True) (okp := fun _ => True) ?hr ?hp (fun _ hk => hk) trivial (Below.refl _ _) (Nat.le_refl _) (by simp) ?_; (case hd => rfl); (case hg => rfl); (case hr => first | (go_simp; done) | (go_simp; rfl)); (case hp => exact (Reps.one (show Kd.M (Kd.int .i64) _ _ _ (l0.length : Int) [.int .i64 (l0.length : Int)] from rfl) (Reps.none _ _))); intro v123 w6 ho7 hb hg_ hnew_; clear hg_ hnew_; (first | rw [← Ny122.out] at ho7 | (simp only [Int.reduceToNat] at ho7; rw [← Ny122.out] at ho7)); have n0_ := Aside0.mk (Kd.R_lower ho7 (below_size (bq0_ HB.out))); have n1_ := Aside0.mk (below_step (bq0_ HB.out) hb); clear HB; have HO124 := n0_; have HB := n1_; clear n0_ n1_; clear hb ho7; obtain ⟨Ao8, co8, eo8⟩ := Kd.R_slice HO124.out; subst eo8) | ((with_reducible refine gate_callee (f := 15) rfl ?_); refine goesL_ (some 13) rfl rfl Try.func15 (by kernel_rfl) rfl #[.slice none 0 0, .slice Ao8 y122.length co8] rfl (by (try simp only [List.map_toArray, List.map_cons, List.map_nil]); first | done | rfl | (simp only [List.length_drop, List.length_take]; rfl)) ?_; (refine (wire_put.calls k (fun k_ => some k_ = (.slice none 0 0 : Value).ownBlock) (.slice none 0 0) ([] : List Int) _ _ y122 t125 w _ ?side1 ?side2 ?side3 ?side4 A4.out).mono ?_); (case side1 => repeat (first | (with_reducible first | exact HB.out | apply below_alloc | apply pw_below_drewN | apply below_drew1) | exact HB.out)); (case side2 => exact Kd.R_nil _ _ _ _ _); (case side3 => exact Kd.C_kept_own (HO124.out) (fun k_ hk_ hs_ => (fun e_ => by simp [Value.ownBlock] at e_) hs_)); (case side4 => exact (Kd.R_reads' HO124.out).2.1); rintro e w9 ⟨v126, rfl, ho0, hb, hkp⟩; refine ⟨_, rfl, ?_⟩; have n0_ := Aside0.mk (Kd.R_mono (ok' := fun k_ => True) (Kd.R_keptB (HO124.out) hkp (fun k_ hk_ hs_ => (fun e_ => by simp [Value.ownBlock] at e_) hs_)) (fun k_ hk_ => trivial)); have n1_ := Aside0.mk (Kd.R_mono (ok' := fun k_ => True) ho0 (fun k_ hk_ => trivial)); have n2_ := Aside0.mk (hb); clear HO124; clear HB; have HO124 := n0_; have HO127 := n1_; have HB := n2_; clear n0_ n1_ n2_; (try clear hb); (try clear hkp); (try clear ho0)))
    go_loopg [4, 16] k (fun kq v4 v16 w' => ∃ (x4_1 : List Int) (x16_1 : Int), v16 = .int .i64 x16_1 ∧ Aside0 (wire_Write.l0 kq x4_1 l0 (l0.length : Int) x16_1 = some (r1, r2)) ∧ Aside0 (kq ≤ k) ∧ Aside0 (Kd.R (Kd.int .u8) 5 w' w.heap.size (fun _ => True) v4 x4_1) ∧ Aside0 (Below w.heap.size w w'))
    case atStart => exact ⟨(t125), (0), (by first | rfl | (simp; done) | (simp [*]; done)), H', ⟨Nat.le_refl _⟩, ⟨by (with_reducible repeat (first | apply Kd.R_alloc | apply Kd.R_drewN | apply Kd.R_drew)); exact HO127.out⟩, ⟨by repeat (first | (with_reducible first | exact HB.out | apply below_alloc | apply pw_below_drewN | apply below_drew1) | exact HB.out)⟩⟩
    case round =>
      clear H'
      try clear c1
      try clear p2
      try clear c3
      try clear c9
      obtain ⟨x4_1, x16_1, rfl, HA, HK1, HO_4, HB⟩ := hrel
      cases gk with
      | zero => exact absurd HA.out (by simp [wire_Write.l0])
      | succ k1 =>
        have H := HA.out
        clear HA
        simp only [wire_Write.l0] at H
        by_cases c10 : x16_1 < (l0.length : Int)
        · rw [if_pos c10] at H
          have c10b0 : decide (x16_1 < (l0.length : Int)) = true := decide_eq_true c10
          clear c10
          by_cases c11 : 0 ≤ x16_1
          · rw [if_pos c11] at H
            have c11b0 : decide (0 ≤ x16_1) = true := decide_eq_true c11
            clear c11
            by_cases c12 : x16_1 < (l0.length : Int)
            · rw [if_pos c12] at H
              have c12b0 : decide (x16_1 < (l0.length : Int)) = true := decide_eq_true c12
              clear c12
              obtain ⟨y130, hy130⟩ : ∃ y_ : List Int, y_ = (([(rd_T36 l0 x16_1).f0] : List Int)) := ⟨_, rfl⟩
              replace H : ((wire_put.f k1 x4_1 y130).bind fun t133 => ((pack_List.f t133 ((rd_T36 l0 x16_1).f1) 1).bind fun bt136 => ((pack_List.f bt136.1 ((rd_T36 l0 x16_1).f2) 8).bind fun bt140 => (wire_Write.l0 k1 bt140.1 l0 (l0.length : Int) (wrap64 (x16_1 + 1)))))) = some (r1, r2) := by first | (rw [hy130]; with_reducible exact H) | (have H2_ := (Option.bind_some _ _).symm.trans H; rw [hy130]; with_reducible exact H2_) | (have H2_ := (Option.bind_some _ _).symm.trans H; with_reducible exact H2_) | with_reducible exact H | (rw [hy130]; exact H) | exact H
              have Ny130 := Aside0.mk hy130
              clear hy130
              replace H := Option.bind_eq_some_iff.mp H
              obtain ⟨t133, A130, H⟩ := H
              replace H : ((pack_List.f t133 ((rd_T36 l0 x16_1).f1) 1).bind fun bt136 => ((pack_List.f bt136.1 ((rd_T36 l0 x16_1).f2) 8).bind fun bt140 => (wire_Write.l0 k1 bt140.1 l0 (l0.length : Int) (wrap64 (x16_1 + 1))))) = some (r1, r2) := H
              have A13 := Aside0.mk A130
              clear A130
              replace H := Option.bind_eq_some_iff.mp H
              obtain ⟨⟨t136, t137⟩, A140, H⟩ := H
              replace H : ((pack_List.f t136 ((rd_T36 l0 x16_1).f2) 8).bind fun bt140 => (wire_Write.l0 k1 bt140.1 l0 (l0.length : Int) (wrap64 (x16_1 + 1)))) = some (r1, r2) := H
              have A14 := Aside0.mk A140
              clear A140
              replace H := Option.bind_eq_some_iff.mp H
              obtain ⟨⟨t140, t141⟩, A150, H⟩ := H
              replace H : (wire_Write.l0 k1 t140 l0 (l0.length : Int) (wrap64 (x16_1 + 1))) = some (r1, r2) := H
              have A15 := Aside0.mk A150
              clear A150
              have H' := Aside0.mk H
              clear H
              have p128 : 0 ≤ (x16_1 : Int) := od_
              have q128 : x16_1 < (l0.length : Int) := od_
              obtain ⟨ad128, A128_1, c128_1, A128_2, c128_2, e128, hx128_0, hx128_1, hx128_2, hl128_1, hi128_1, hl128_2, hi128_2⟩ := at_T36 HR0.out x16_1 p128 q128
              cases e128
              replace hx128_0 := (HB.out.cell (World.block_lt_of_cell? w _ hx128_0)).trans hx128_0
              replace hx128_1 := (HB.out.cell (World.block_lt_of_cell? w _ hx128_1)).trans hx128_1
              replace hx128_2 := (HB.out.cell (World.block_lt_of_cell? w _ hx128_2)).trans hx128_2
              have HR128_1 := Aside0.mk hi128_1
              have HC128_1 := Aside0.mk hl128_1
              clear hi128_1 hl128_1
              have HR128_2 := Aside0.mk hi128_2
              have HC128_2 := Aside0.mk hl128_2
              clear hi128_2 hl128_2
              replace p128 := eq_true p128
              replace q128 := eq_true q128
              try go_wp2_with (first | ((with_reducible refine gate_dst (N := 6) rfl ?_); refine box_event ?hg (N := 6) ?hd (cs := #[.int .i64 0, .slice none 0 0, .slice none 0 0]) (t := 36) ?hr ?_; (case hd => rfl); (case hg => rfl); (case hr => first | (go_simp; done) | (go_simp; rfl)); intro gb129 hg w16 hbox hb; have n0_ := Aside0.mk (Kd.R_below (mvR_ HO_4.out) hb); have n1_ := Aside0.mk (below_step (bq0_ HB.out) hb); have n2_ := Aside0.mk (hbox); have n3_ := Aside0.mk ((by rw [hg]; exact (below_size (bq0_ HB.out)) : w.heap.size ≤ gb129)); have n4_ := Aside0.mk ((by rw [hg]; exact (below_size (bq0_ HB.out)) : w.heap.size ≤ gb129)); clear HO_4; clear HB; have HO_4 := n0_; have HB := n1_; have BK129 := n2_; have GW129 := n3_; have GE129 := n4_; clear n0_ n1_ n2_ n3_ n4_; clear hb hbox hg; have hcz17_0 : w16.cell? ⟨gb129, 0, none⟩ = some (.int .i64 0) := (blk_cell BK129.out 0).trans rfl; have hcz17_1 : w16.cell? ⟨gb129, 1, none⟩ = some (.slice none 0 0) := (blk_cell BK129.out 1).trans rfl; have hcz17_2 : w16.cell? ⟨gb129, 2, none⟩ = some (.slice none 0 0) := (blk_cell BK129.out 2).trans rfl; have hfz17_0 := blk_frozen BK129.out 0; have hfz17_1 := blk_frozen BK129.out 1; have hfz17_2 := blk_frozen BK129.out 2))
              have n0_ : Aside0 (Kd.R (Kd.int .u8) 5 (((w16.setCell ⟨gb129, 0, none⟩ (.int .i64 ((rd_T36 l0 x16_1).f0))).setCell ⟨gb129, 1, none⟩ (.slice A128_1 ((rd_T36 l0 x16_1).f1).length c128_1)).setCell ⟨gb129, 2, none⟩ (.slice A128_2 ((rd_T36 l0 x16_1).f2).length c128_2)) w.heap.size (fun _ => True) u4 x4_1) := ⟨by (with_reducible repeat (first | apply Kd.R_alloc | apply Kd.R_drewN | apply Kd.R_drew)); exact Kd.R_mono (Kd.R_far (p := ⟨gb129, 2, none⟩) (Kd.R_far (p := ⟨gb129, 1, none⟩) (Kd.R_far (p := ⟨gb129, 0, none⟩) (Kd.R_types HO_4.out BK129.out (by decide)) (fun _ hk => hk.2) (.int .i64 ((rd_T36 l0 x16_1).f0))) (fun _ hk => hk.2) (.slice A128_1 ((rd_T36 l0 x16_1).f1).length c128_1)) (fun _ hk => hk.2) (.slice A128_2 ((rd_T36 l0 x16_1).f2).length c128_2)) (fun _ hk => trivial)⟩
              have n1_ : Aside0 ((((w16.setCell ⟨gb129, 0, none⟩ (.int .i64 ((rd_T36 l0 x16_1).f0))).setCell ⟨gb129, 1, none⟩ (.slice A128_1 ((rd_T36 l0 x16_1).f1).length c128_1)).setCell ⟨gb129, 2, none⟩ (.slice A128_2 ((rd_T36 l0 x16_1).f2).length c128_2)).heap[gb129]? = some (.cells #[.int .i64 ((rd_T36 l0 x16_1).f0), .slice A128_1 ((rd_T36 l0 x16_1).f1).length c128_1, .slice A128_2 ((rd_T36 l0 x16_1).f2).length c128_2] 36 (0, 0))) := ⟨by (with_reducible repeat (first | refine blk_drewN ?_ _ | refine blk_drew ?_ | refine blk_alloc ?_ _)); refine blk_put (cs := #[.int .i64 ((rd_T36 l0 x16_1).f0), .slice A128_1 ((rd_T36 l0 x16_1).f1).length c128_1, .slice none 0 0]) ?_ 2 _ rfl; (with_reducible repeat (first | refine blk_drewN ?_ _ | refine blk_drew ?_ | refine blk_alloc ?_ _)); refine blk_put (cs := #[.int .i64 ((rd_T36 l0 x16_1).f0), .slice none 0 0, .slice none 0 0]) ?_ 1 _ rfl; (with_reducible repeat (first | refine blk_drewN ?_ _ | refine blk_drew ?_ | refine blk_alloc ?_ _)); refine blk_put (cs := #[.int .i64 0, .slice none 0 0, .slice none 0 0]) ?_ 0 _ rfl; (with_reducible repeat (first | refine blk_drewN ?_ _ | refine blk_drew ?_ | refine blk_alloc ?_ _)); exact BK129.out⟩
              have n2_ : Aside0 (Below w.heap.size w (((w16.setCell ⟨gb129, 0, none⟩ (.int .i64 ((rd_T36 l0 x16_1).f0))).setCell ⟨gb129, 1, none⟩ (.slice A128_1 ((rd_T36 l0 x16_1).f1).length c128_1)).setCell ⟨gb129, 2, none⟩ (.slice A128_2 ((rd_T36 l0 x16_1).f2).length c128_2))) := ⟨by repeat (first | (with_reducible first | exact HB.out | apply below_alloc | apply pw_below_drewN | apply below_drew1 | refine below_set ?_ GE129.out) | exact HB.out)⟩
              (try clear HO_4)
              (try clear BK129)
              (try clear HB)
              generalize (((w16.setCell ⟨gb129, 0, none⟩ (.int .i64 ((rd_T36 l0 x16_1).f0))).setCell ⟨gb129, 1, none⟩ (.slice A128_1 ((rd_T36 l0 x16_1).f1).length c128_1)).setCell ⟨gb129, 2, none⟩ (.slice A128_2 ((rd_T36 l0 x16_1).f2).length c128_2)) = w18 at n0_ n1_ n2_ ⊢
              have HO_4 := n0_
              have BK129 := n1_
              have HB := n2_
              clear n0_ n1_ n2_
              have n0_ := Aside0.mk (Kd.R_drew HO_4.out)
              have n1_ := Aside0.mk (blk_drew BK129.out)
              have n2_ := Aside0.mk (below_drew1 HB.out)
              clear HO_4
              clear BK129
              clear HB
              have HO_4 := n0_
              have BK129 := n1_
              have HB := n2_
              clear n0_ n1_ n2_
              refine start_ (n := 12) (S := fun w' => w'.cell? ⟨gb129, 0, none⟩ = some (.int .i64 ((rd_T36 l0 x16_1).f0)) ∧ w'.cell? ⟨gb129, 1, none⟩ = some (.slice A128_1 ((rd_T36 l0 x16_1).f1).length c128_1) ∧ w'.cell? ⟨gb129, 2, none⟩ = some (.slice A128_2 ((rd_T36 l0 x16_1).f2).length c128_2)) (ds := []) L9_0 (by kernel_rfl) rfl rfl ⟨(blk_cell BK129.out 0).trans rfl, (blk_cell BK129.out 1).trans rfl, (blk_cell BK129.out 2).trans rfl⟩ (fun hHeld => ?_); refine with_tabW wire_Write.tab7 wire_Write.bits7 (fun HT_ HW_ => ?_)
              generalize w18.drew = w19 at HO_4 BK129 HB hHeld ⊢
              refine pure_ (i := 0) (N := some 21) (v := ?_) (a' := ?_) L9_1 rfl rfl (any_of HT_.out (by kernel_rfl)) (fun _ _ _ h => h) (Or.inl ⟨by rfl, ?_⟩) ?_ ?_
              rotate_left
              · intro w'
                go_simp
                with_reducible rfl
              rotate_left
              · simp only [Act.put, List.setIfInBounds_toArray, List.set_cons_zero, List.set_cons_succ, i64_w, i32_w]
                rfl
              refine pure_ (i := 1) (N := some 22) (v := ?_) (a' := ?_) L9_2 rfl rfl (any_of HT_.out (by kernel_rfl)) (fun _ _ _ h => h) (Or.inl ⟨by rfl, ?_⟩) ?_ ?_
              rotate_left
              · intro w'
                go_simp
                with_reducible rfl
              rotate_left
              · simp only [Act.put, List.setIfInBounds_toArray, List.set_cons_zero, List.set_cons_succ, i64_w, i32_w]
                rfl
              refine pure_ (i := 5) (N := some 26) (v := ?_) (a' := ?_) L9_3 rfl rfl (any_of HT_.out (by kernel_rfl)) (fun _ _ _ h => h) (Or.inl ⟨by rfl, ?_⟩) ?_ ?_
              rotate_left
              · intro w'
                go_simp
                with_reducible rfl
              rotate_left
              · simp only [Act.put, List.setIfInBounds_toArray, List.set_cons_zero, List.set_cons_succ, i64_w, i32_w]
                rfl
              refine take_ (i := 2) (N := some 23) (v := ?_) (a' := ?_) L9_4 rfl rfl (take_ofW HT_.out HW_.out (by kernel_rfl)) (fun _ _ _ h => h) (Or.inl ⟨by rfl, ?_⟩) hHeld ?_ ?_
              rotate_left
              · rintro w' ⟨s0, s1, s2⟩
                go_simp
                with_reducible rfl
              rotate_left
              · simp only [Act.put, List.setIfInBounds_toArray, List.set_cons_zero, List.set_cons_succ, i64_w, i32_w]
                rfl
              refine take_ (i := 6) (N := some 27) (v := ?_) (a' := ?_) L9_5 rfl rfl (take_ofW HT_.out HW_.out (by kernel_rfl)) (fun _ _ _ h => h) (Or.inl ⟨by rfl, ?_⟩) hHeld ?_ ?_
              rotate_left
              · rintro w' ⟨s0, s1, s2⟩
                go_simp
                with_reducible rfl
              rotate_left
              · simp only [Act.put, List.setIfInBounds_toArray, List.set_cons_zero, List.set_cons_succ, i64_w, i32_w]
                rfl
              refine one_ (i := 3) (N := some 24) L9_6 rfl rfl (one_of HT_.out (by kernel_rfl)) (by decide) (fun K hK => ?_)
              refine Kd.R_lit_step (Kd.int .i64) _ 3 ?hg (N := 24) ?hd (xs := ([(rd_T36 l0 x16_1).f0] : List Int)) (inner := [.int .i64 ((rd_T36 l0 x16_1).f0)]) (ok := fun _ => True) (okp := fun _ => True) ?hr ?hp (fun _ hk => hk) trivial (Below.refl _ _) (Nat.le_refl _) (by simp) ?_; (case hd => rfl); (case hg => rfl); (case hr => first | (go_simp; done) | (go_simp; rfl)); (case hp => exact (Reps.one (show Kd.M (Kd.int .i64) _ _ _ ((rd_T36 l0 x16_1).f0) [.int .i64 ((rd_T36 l0 x16_1).f0)] from rfl) (Reps.none _ _)))
              intro v131 w20 ho21 hb hg_ hnew_
              clear hg_ hnew_
              (first | rw [← Ny130.out] at ho21 | (simp only [Int.reduceToNat] at ho21; rw [← Ny130.out] at ho21))
              have n0_ := Aside0.mk (Kd.R_below (mvR_ HO_4.out) hb)
              have n1_ := Aside0.mk (Kd.R_lower ho21 (below_size (bq1_ HB.out GE129.out)))
              have n2_ := Aside0.mk (blk_below (g := gb129) (o := .cells #[.int .i64 ((rd_T36 l0 x16_1).f0), .slice A128_1 ((rd_T36 l0 x16_1).f1).length c128_1, .slice A128_2 ((rd_T36 l0 x16_1).f2).length c128_2] 36 (0, 0)) (mvK_ BK129.out) hb)
              have n3_ := Aside0.mk (below_step (bq1_ HB.out GE129.out) hb)
              clear HO_4
              clear BK129
              clear HB
              have HO_4 := n0_
              have HO132 := n1_
              have BK129 := n2_
              have HB := n3_
              clear n0_ n1_ n2_ n3_
              clear hb ho21
              obtain ⟨Ao22, co22, eo22⟩ := Kd.R_slice HO_4.out
              (first | subst eo22 | (injection eo22 with f1_ f2_ f3_; have f4_ := f1_.symm; have f5_ := f3_.symm; clear f1_ f2_ f3_; subst f4_; subst f5_))
              obtain ⟨Ao23, co23, eo23⟩ := Kd.R_slice HO132.out
              (first | subst eo23 | (injection eo23 with f1_ f2_ f3_; have f4_ := f1_.symm; have f5_ := f3_.symm; clear f1_ f2_ f3_; subst f4_; subst f5_))
              refine hK.out _ _ ⟨(blk_cell BK129.out 0).trans rfl, (blk_cell BK129.out 1).trans rfl, (blk_cell BK129.out 2).trans rfl⟩ (fun hHeld => ?_)
              clear hK K
              refine norm_ (a' := ?_) ?_ ?_
              rotate_left
              · show Act.put _ (some 24) _ = _
                simp only [Act.put, List.setIfInBounds_toArray, List.set_cons_zero, List.set_cons_succ, i64_w, i32_w]
                rfl
              refine one_ (i := 4) (N := some 25) L9_7 rfl rfl (one_of HT_.out (by kernel_rfl)) (by decide) (fun K hK => ?_)
              refine goes_ Try.func15 (by kernel_rfl) rfl #[.slice Ao22 x4_1.length co22, .slice Ao23 y130.length co23] (by rfl) rfl rfl (by (try simp only [List.map_toArray, List.map_cons, List.map_nil]); first | done | rfl | (simp only [List.length_drop, List.length_take]; rfl)) ?_
              with_reducible refine (wire_put.calls k1 (fun k_ => some k_ = (.slice Ao22 x4_1.length co22 : Value).ownBlock) (.slice Ao22 x4_1.length co22) x4_1 _ _ y130 t133 w _ ?side1 ?side2 ?side3 ?side4 A13.out).mono ?_
              (case side1 => repeat (first | (with_reducible first | exact HB.out | apply below_alloc | apply pw_below_drewN | apply below_drew1 | refine below_set ?_ GE129.out) | exact HB.out))
              (case side2 => exact Kd.R_tight rfl HO_4.out)
              (case side3 => exact Kd.C_kept_own ((Kd.R_apart' HO132.out (Kd.R_typed HO_4.out) (by decide))) (fun k_ hk_ hs_ => (hk_.2) hs_))
              (case side4 => exact (Kd.R_reads' HO132.out).2.1)
              rintro e w24 ⟨v134, rfl, ho0, hb, hkp⟩
              refine ⟨_, rfl, ?_⟩
              have n0_ := Aside0.mk (blk_kept (mvK_ BK129.out) hkp (fun hs_ => (fun e_ => (Kd.R_ne HO_4.out BK129.out (by decide)) e_) hs_))
              have n1_ := Aside0.mk (Kd.R_mono (ok' := fun k_ => True) (Kd.R_keptB ((Kd.R_apart' HO132.out (Kd.R_typed HO_4.out) (by decide))) hkp (fun k_ hk_ hs_ => (hk_.2) hs_)) (fun k_ hk_ => trivial))
              have n2_ := Aside0.mk (Kd.R_mono (ok' := fun k_ => True) ho0 (fun k_ hk_ => trivial))
              have n3_ := Aside0.mk (hb)
              clear BK129
              clear HO132
              clear HB
              clear HO_4
              have BK129 := n0_
              have HO132 := n1_
              have HO135 := n2_
              have HB := n3_
              clear n0_ n1_ n2_ n3_
              (try clear hb)
              (try clear hkp)
              (try clear ho0)
              obtain ⟨Ao25, co25, eo25⟩ := Kd.R_slice HO135.out
              (first | subst eo25 | (injection eo25 with f1_ f2_ f3_; have f4_ := f1_.symm; have f5_ := f3_.symm; clear f1_ f2_ f3_; subst f4_; subst f5_))
              refine hK.out _ _ ⟨(blk_cell BK129.out 0).trans rfl, (blk_cell BK129.out 1).trans rfl, (blk_cell BK129.out 2).trans rfl⟩ (fun hHeld => ?_)
              clear hK K
              refine norm_ (a' := ?_) ?_ ?_
              rotate_left
              · show Act.put _ (some 25) _ = _
                simp only [Act.put, List.setIfInBounds_toArray, List.set_cons_zero, List.set_cons_succ, i64_w, i32_w]
                rfl
              refine one_ (i := 7) (N := some 28) L9_8 rfl rfl (one_of HT_.out (by kernel_rfl)) (by decide) (fun K hK => ?_)
              refine goes_ Try.func16 (by kernel_rfl) rfl #[.slice Ao25 t133.length co25, .slice A128_1 ((rd_T36 l0 x16_1).f1).length c128_1, .int .i64 1] (by rfl) rfl rfl (by (try simp only [List.map_toArray, List.map_cons, List.map_nil]); first | done | rfl | (simp only [List.length_drop, List.length_take]; rfl)) ?_
              with_reducible refine (pack_List.calls _ _ t133 _ _ ((rd_T36 l0 x16_1).f1) 1 t136 t137 _ ?side1 ?side2 ?side3 ?side4 A14.out).mono ?_
              (case side1 => exact mvC_ ((Kd.R_reads' HO135.out).2.2))
              (case side2 => exact (Kd.R_reads' HO135.out).2.1)
              (case side3 => exact mvC_ ((Kd.C_below HR128_1.out HB.out)))
              (case side4 => exact HC128_1.out)
              rintro e w26 ⟨v138, rfl, ho0, hb⟩
              refine ⟨_, rfl, ?_⟩
              have n0_ := Aside0.mk (Kd.R_below (mvR_ HO132.out) hb)
              have n1_ := Aside0.mk (Kd.R_elder' (mvR_ HO135.out) (Kd.R_base ho0) hb)
              have n2_ := Aside0.mk (Kd.R_lower (Kd.R_new' ho0 (Kd.R_lt (mvR_ HO135.out))) (below_size (bq1_ HB.out GE129.out)))
              have n3_ := Aside0.mk (blk_below (g := gb129) (o := .cells #[.int .i64 ((rd_T36 l0 x16_1).f0), .slice A128_1 ((rd_T36 l0 x16_1).f1).length c128_1, .slice A128_2 ((rd_T36 l0 x16_1).f2).length c128_2] 36 (0, 0)) (mvK_ BK129.out) hb)
              have n4_ := Aside0.mk (below_step (bq1_ HB.out GE129.out) hb)
              clear HO132
              clear HO135
              clear BK129
              clear HB
              have HO132 := n0_
              have HO135 := n1_
              have HO139 := n2_
              have BK129 := n3_
              have HB := n4_
              clear n0_ n1_ n2_ n3_ n4_
              (try clear hb)
              (try clear hb2)
              (try clear hk)
              (try clear hi)
              (try clear ho0)
              refine hK.out _ _ ⟨(blk_cell BK129.out 0).trans rfl, (blk_cell BK129.out 1).trans rfl, (blk_cell BK129.out 2).trans rfl⟩ (fun hHeld => ?_)
              clear hK K
              refine norm_ (a' := ?_) ?_ ?_
              rotate_left
              · show Act.put _ (some 28) _ = _
                simp only [Act.put, List.setIfInBounds_toArray, List.set_cons_zero, List.set_cons_succ, i64_w, i32_w]
                rfl
              refine pure_ (i := 8) (N := some 20) (v := ?_) (a' := ?_) L9_9 rfl rfl (any_of HT_.out (by kernel_rfl)) (fun _ _ _ h => h) (Or.inl ⟨by rfl, ?_⟩) ?_ ?_
              rotate_left
              · intro w'
                go_simp
                with_reducible rfl
              rotate_left
              · simp only [Act.put, List.setIfInBounds_toArray, List.set_cons_zero, List.set_cons_succ, i64_w, i32_w]
                rfl
              refine pure_ (i := 9) (N := some 29) (v := ?_) (a' := ?_) L9_10 rfl rfl (any_of HT_.out (by kernel_rfl)) (fun _ _ _ h => h) (Or.inl ⟨by rfl, ?_⟩) ?_ ?_
              rotate_left
              · intro w'
                go_simp
                with_reducible rfl
              rotate_left
              · simp only [Act.put, List.setIfInBounds_toArray, List.set_cons_zero, List.set_cons_succ, i64_w, i32_w]
                rfl
              refine pure_ (i := 10) (N := some 30) (v := ?_) (a' := ?_) L9_11 rfl rfl (any_of HT_.out (by kernel_rfl)) (fun _ _ _ h => h) (Or.inl ⟨by rfl, ?_⟩) ?_ ?_
              rotate_left
              · intro w'
                go_simp
                with_reducible rfl
              rotate_left
              · simp only [Act.put, List.setIfInBounds_toArray, List.set_cons_zero, List.set_cons_succ, i64_w, i32_w]
                rfl
              refine pure_ (i := 11) (N := some 4) (v := ?_) (a' := ?_) L9_12 rfl rfl (any_of HT_.out (by kernel_rfl)) (fun _ _ _ h => h) (Or.inl ⟨by rfl, ?_⟩) ?_ ?_
              rotate_left
              · intro w'
                go_simp
                with_reducible rfl
              rotate_left
              · simp only [Act.put, List.setIfInBounds_toArray, List.set_cons_zero, List.set_cons_succ, i64_w, i32_w]
                rfl
              refine done_ (done_of HT_.out (by kernel_rfl)) ?_
              have hcz27_0 : w26.cell? ⟨gb129, 0, none⟩ = some (.int .i64 ((rd_T36 l0 x16_1).f0)) := (blk_cell BK129.out 0).trans rfl
              have hcz27_1 : w26.cell? ⟨gb129, 1, none⟩ = some (.slice A128_1 ((rd_T36 l0 x16_1).f1).length c128_1) := (blk_cell BK129.out 1).trans rfl
              have hcz27_2 : w26.cell? ⟨gb129, 2, none⟩ = some (.slice A128_2 ((rd_T36 l0 x16_1).f2).length c128_2) := (blk_cell BK129.out 2).trans rfl
              have hfz27_0 := blk_frozen BK129.out 0
              have hfz27_1 := blk_frozen BK129.out 1
              have hfz27_2 := blk_frozen BK129.out 2
              obtain ⟨Ao28, co28, eo28⟩ := Kd.R_slice HO139.out
              subst eo28
              try go_wp2_with (first | ((with_reducible refine gate_callee (f := 16) rfl ?_); refine goesL_ (some 35) rfl rfl Try.func16 (by kernel_rfl) rfl #[.slice Ao28 t136.length co28, .slice A128_2 ((rd_T36 l0 x16_1).f2).length c128_2, .int .i64 8] rfl (by (try simp only [List.map_toArray, List.map_cons, List.map_nil]); first | done | rfl | (simp only [List.length_drop, List.length_take]; rfl)) ?_; (with_reducible refine (pack_List.calls _ _ t136 _ _ ((rd_T36 l0 x16_1).f2) 8 t140 t141 _ ?side1 ?side2 ?side3 ?side4 A15.out).mono ?_); (case side1 => exact mvC_ ((Kd.R_reads' HO139.out).2.2)); (case side2 => exact (Kd.R_reads' HO139.out).2.1); (case side3 => exact mvC_ ((Kd.C_below HR128_2.out HB.out))); (case side4 => exact HC128_2.out); rintro e w29 ⟨v142, rfl, ho0, hb⟩; refine ⟨_, rfl, ?_⟩; have n0_ := Aside0.mk (Kd.R_below (mvR_ HO132.out) hb); have n1_ := Aside0.mk (Kd.R_elder' (mvR_ HO135.out) (Kd.R_base ho0) hb); have n2_ := Aside0.mk (Kd.R_elder' (mvR_ HO139.out) (Kd.R_base ho0) hb); have n3_ := Aside0.mk (Kd.R_lower (Kd.R_new' (Kd.R_new' ho0 (Kd.R_lt (mvR_ HO135.out))) (Kd.R_lt (mvR_ HO139.out))) (below_size (bq1_ HB.out GE129.out))); have n4_ := Aside0.mk (blk_below (g := gb129) (o := .cells #[.int .i64 ((rd_T36 l0 x16_1).f0), .slice A128_1 ((rd_T36 l0 x16_1).f1).length c128_1, .slice A128_2 ((rd_T36 l0 x16_1).f2).length c128_2] 36 (0, 0)) (mvK_ BK129.out) hb); have n5_ := Aside0.mk (below_step (bq1_ HB.out GE129.out) hb); clear HO132; clear HO135; clear HO139; clear BK129; clear HB; have HO132 := n0_; have HO135 := n1_; have HO139 := n2_; have HO143 := n3_; have BK129 := n4_; have HB := n5_; clear n0_ n1_ n2_ n3_ n4_ n5_; (try clear hb); (try clear ho0)))
              go_roundg k1
              case measure => have := HK1.out; omega
              case rel => exact ⟨(t140), (wrap64 (x16_1 + 1)), (by first | rfl | (simp; done) | (simp [*]; done)), H', ⟨by have := HK1.out; omega⟩, ⟨by (with_reducible repeat (first | apply Kd.R_alloc | apply Kd.R_drewN | apply Kd.R_drew)); exact Kd.R_mono HO143.out (fun _ hk => trivial)⟩, ⟨by repeat (first | (with_reducible first | exact HB.out | apply below_alloc | apply pw_below_drewN | apply below_drew1 | refine below_set ?_ GE129.out) | exact HB.out)⟩⟩
            · rw [if_neg c12] at H
              exact absurd H (by simp)
          · rw [if_neg c11] at H
            exact absurd H (by simp)
        · rw [if_neg c10] at H
          have c10b0 : decide (x16_1 < (l0.length : Int)) = false := decide_eq_false c10
          clear c10
          simp only [Option.some.injEq, Prod.mk.injEq] at H
          obtain ⟨rfl, rfl⟩ := H
          go_wp2
          go_ret2
          exact ⟨_, by first | rfl | (simp [errW_none, errW_some] <;> rfl) | (simp [*, errW_none, errW_some] <;> rfl), by (with_reducible repeat (first | apply Kd.R_alloc | apply Kd.R_drewN | apply Kd.R_drew)); exact HO_4.out, by repeat (first | (with_reducible first | exact HB.out | apply below_alloc | apply pw_below_drewN | apply below_drew1) | exact HB.out)⟩
  · replace c3 := Bool.eq_false_iff.mpr c3
    subst c3
    have H1 : (some (([] : List Int), 100)) = some (r1, r2) := by rw [if_neg (show ¬ (false = true) by decide)] at H; exact H
    clear H
    have H := H1
    clear H1
    simp only [Option.some.injEq, Prod.mk.injEq] at H
    obtain ⟨rfl, rfl⟩ := H
    go_enter Try.func9, Try.ntmps9
    go_wp2_with (first | ((with_reducible refine gate_callee (f := 14) rfl ?_); refine goesL_ (some 8) rfl rfl Try.func14 (by kernel_rfl) rfl #[.slice A0 l0.length c0] rfl (by (try simp only [List.map_toArray, List.map_cons, List.map_nil]); first | done | rfl | (simp only [List.length_drop, List.length_take]; rfl)) ?_; (with_reducible refine (graph_Check.calls _ _ l0 false _ ?side1 ?side2 A2.out).mono ?_); (case side1 => exact mvC_ (HR0.out)); (case side2 => exact HC0.out); rintro e w30 ⟨rfl, hb⟩; refine ⟨_, rfl, ?_⟩; have n0_ := Aside0.mk (below_step (bq0_ HB.out) hb); clear HB; have HB := n0_; clear n0_; (try clear hb)))
    go_ret2
    exact ⟨_, by first | rfl | (simp [errW_none, errW_some] <;> rfl) | (simp [*, errW_none, errW_some] <;> rfl), by first | exact Kd.R_nil _ _ _ _ _ | exact Kd.N_nil _ _ _ _ _ | exact Kd.V_nil _ _ _ _ _ | exact Kd.Q_nil _ _ _ _ _ | exact Kd.S_nil _ _ _ _ _, by repeat (first | (with_reducible first | exact HB.out | apply below_alloc | apply pw_below_drewN | apply below_drew1) | exact HB.out)⟩

/-! ### pack_take: function 40 (given) -/
/-- The number that bytes are, the highest first, behind a number. -/
def tkl : Int → List Int → Int
  | n, [] => n
  | n, c :: r => tkl (Go.bits .or .i64 (wrap64 (n * 256)) (wrap64 c)) r
theorem pack_take.no (A0 : Option Addr) (c0 : Nat) (l0 : List Int) (a1 : Int) (hl : (l0.length : Int) * 8 ≤ 9223372036854775807) (h : okSize a1 = false ∨ (l0.length : Int) < a1) (w : World) :
    Calls Try.prog 40 #[.slice A0 l0.length c0, .int .i64 a1] w fun e w' => e = .panicked [wrongE] ∧ w = w' := by
  by_cases hk : okSize a1 = true
  · have h2 : (l0.length : Int) < a1 := by
      rcases h with h | h
      · rw [hk] at h; cases h
      · exact h
    have e1 : wrap64 (8 * (l0.length : Int)) = 8 * (l0.length : Int) := by unfold wrap64; omega
    have e2 : IntKind.i64.wrap (8 * (l0.length : Int)) = 8 * (l0.length : Int) := (i64_w _).trans e1
    have e3 : decide (a1 ≤ (l0.length : Int)) = false := decide_eq_false (by omega)
    clear h h2 hl e1
    have HK := Aside0.mk hk
    clear hk
    go_enter Try.func40, Try.ntmps40
    go_wp2_with (first | (go_at_call 32; (with_reducible refine (pack_bits.ok a1 HK.out _).mono ?_); rintro e w' ⟨rfl, rfl⟩) | (go_at_call 44; (with_reducible refine (pack_must.no _).mono ?_); rintro e w' ⟨rfl, rfl⟩))
    exact ⟨rfl, rfl, rfl⟩
  · have hk' : okSize a1 = false := by simpa using hk
    clear h hk hl
    have HK := Aside0.mk hk'
    clear hk'
    go_enter Try.func40, Try.ntmps40
    go_wp2_with (first | (go_at_call 32; (with_reducible refine (pack_bits.no a1 HK.out _).mono ?_); rintro e w' ⟨rfl, rfl⟩))
    exact ⟨rfl, rfl, rfl⟩
set_option maxHeartbeats 8000000 in
set_option maxRecDepth 100000 in
theorem pack_take.ok (A0 : Option Addr) (c0 : Nat) (l0 : List Int) (a1 : Int) (hl : (l0.length : Int) * 8 ≤ 9223372036854775807) (hk : okSize a1 = true) (h2 : a1 ≤ (l0.length : Int)) (w : World)
    (hr0 : Kd.C (Kd.int .u8) w A0 l0.length l0) (hc0 : l0.length ≤ c0) :
    Calls Try.prog 40 #[.slice A0 l0.length c0, .int .i64 a1] w fun e w' => ∃ (A1 : Option Addr) (c1 : Nat), e = .returned (.tuple #[.int .i64 (tkl 0 (l0.take a1.toNat)), .slice A1 (l0.drop a1.toNat).length c1]) ∧
      (l0.drop a1.toNat).length ≤ c1 ∧ (∀ W', Kd.C (Kd.int .u8) W' A0 l0.length l0 → Kd.C (Kd.int .u8) W' A1 (l0.drop a1.toNat).length (l0.drop a1.toNat)) ∧ Drawn0 w w' := by
  have h3 : a1 = 1 ∨ a1 = 2 ∨ a1 = 8 := by simpa [okSize, or_assoc] using hk
  have h0 : 0 ≤ a1 := by omega
  have e1 : wrap64 (8 * (l0.length : Int)) = 8 * (l0.length : Int) := by unfold wrap64; omega
  have e2 : IntKind.i64.wrap (8 * (l0.length : Int)) = 8 * (l0.length : Int) := (i64_w _).trans e1
  have e3 : decide (a1 ≤ (l0.length : Int)) = true := decide_eq_true (by omega)
  obtain ⟨y, hy⟩ : ∃ y : List Int, y = l0.take a1.toNat := ⟨_, rfl⟩
  obtain ⟨i08, hi08, _, hsz8, _⟩ := info_parts info5
  have hcut8 := cut_to (P := Try.prog) 23 5 .i64 Try.underlying23 hi08 A0 l0.length c0 a1 h0 h2 hc0
  have hr8 := Kd.C_take (m := a1.toNat) hr0 (by omega)
  have hy8 : y.length = a1.toNat := (by rw [hy, List.length_take]; omega)
  rw [← hy] at hr8
  rw [← hy8] at hcut8
  have HR := Aside0.mk hr8
  have HR0 := Aside0.mk hr0
  have HC0 := Aside0.mk hc0
  have HK := Aside0.mk hk
  have HY := Aside0.mk hy
  have HY8 := Aside0.mk hy8
  have HL := Aside0.mk h2
  have H0 := Aside0.mk h0
  have HH := Aside0.mk hl
  clear hr8 hr0 hc0 hk hy hy8 h3 hl e1 hi08 hsz8 h2 h0
  go_enter Try.func40, Try.ntmps40
  go_wp2_with (first | (go_at_call 32; (with_reducible refine (pack_bits.ok a1 HK.out _).mono ?_); rintro e w' ⟨rfl, rfl⟩) | (go_at_call 44; (with_reducible refine (pack_must.ok _).mono ?_); rintro e w' ⟨rfl, rfl⟩))
  go_loopg [6, 20] (y.length + 1) (fun kq v6 v20 w' => ∃ (x6 : Int) (i : Nat), v6 = .int .i64 x6 ∧ v20 = .int .i64 (i : Int) ∧ Aside0 (i ≤ y.length ∧ y.length - i < kq ∧ tkl x6 (y.drop i) = tkl 0 y) ∧ Aside0 (Kd.C (Kd.int .u8) w' A0 y.length y) ∧ Drawn0 w w')
  case atStart => exact ⟨0, 0, rfl, rfl, ⟨by omega, by omega, by simp⟩, HR, Drawn0.refl _⟩
  case round =>
    obtain ⟨x6, i, rfl, rfl, HI, HR1, ⟨m1, rfl⟩⟩ := hrel
    by_cases hlt : i < y.length
    · have p0 : (0 : Int) ≤ (i : Int) := by omega
      have q0 : (i : Int) < (y.length : Int) := by omega
      obtain ⟨ad, he, hx⟩ := Kd.at_int HR1.out (i : Int) p0 q0
      cases he
      rw [Int.toNat_natCast] at hx
      have hb0 : decide ((i : Int) < (y.length : Int)) = true := decide_eq_true q0
      have hb1 : decide (i < y.length) = true := decide_eq_true hlt
      have p1 := eq_true p0
      have q1 := eq_true q0
      have HLT := Aside0.mk hlt
      have hHI := HI
      clear hlt p0 q0
      go_wp2
      have hlt := HLT.out
      obtain ⟨hi1, hi2, hi3⟩ := HI.out
      go_roundg (gk - 1)
      case measure => omega
      case rel =>
        have hd : y.drop i = y[i] :: y.drop (i + 1) := List.drop_eq_getElem_cons hlt
        have hrd : rd y (i : Int) = y[i] := by unfold rd; simp [List.getD_eq_getElem?_getD, hlt]
        have hlen : y.length ≤ 8 := by have h3 : a1 = 1 ∨ a1 = 2 ∨ a1 = 8 := by simpa [okSize, or_assoc] using HK.out
                                       have := HY8.out; omega
        have g1 : i + 1 ≤ y.length := by omega
        have g2 : y.length - (i + 1) < gk - 1 := by omega
        have hw : wrap64 ((i : Int) + 1) = ((i + 1 : Nat) : Int) := by unfold wrap64; omega
        exact ⟨_, i + 1, rfl, by rw [hw], ⟨g1, g2, by rw [← hi3, hd, hrd]; rfl⟩, HR1, ⟨m1, rfl⟩⟩
    · have hi := HI.out
      obtain ⟨hi1, hi2, hi3⟩ := hi
      have hie : i = y.length := by omega
      subst hie
      have hb0 : decide ((y.length : Int) < (y.length : Int)) = false := decide_eq_false (by omega)
      have hb1 : decide (y.length < y.length) = false := decide_eq_false (by omega)
      have hres : tkl 0 (l0.take a1.toNat) = x6 := by rw [← HY.out, ← hi3]; simp [tkl]
      obtain ⟨i014, hi014, _, hsz14, _⟩ := info_parts info5
      have hcut14 := cut_from (P := Try.prog) 23 5 .i64 Try.underlying23 hi014 1 hsz14 A0 l0.length c0 a1 H0.out HL.out
      have hr14 := fun W' (hW : Kd.C (Kd.int .u8) W' A0 l0.length l0) => Kd.C_drop (m := a1.toNat) hW (by have := HL.out; omega) HC0.out
      obtain ⟨A14, hA14⟩ : ∃ A1, A1 = (if c0 = a1.toNat then A0 else (A0 : Option Addr).map (·.add (a1.toNat * 1))) := ⟨_, rfl⟩
      obtain ⟨c14, hc14⟩ : ∃ c1, c1 = c0 - a1.toNat := ⟨_, rfl⟩
      obtain ⟨z, hz⟩ : ∃ z : List Int, z = l0.drop a1.toNat := ⟨_, rfl⟩
      have hy14 : z.length = l0.length - a1.toNat := by rw [hz, List.length_drop]
      have hcz : z.length ≤ c14 := by rw [hy14, hc14]; have := HC0.out; omega
      rw [← hz] at hr14
      rw [← hy14, ← hA14, ← hc14] at hcut14
      have HR14 := Aside0.mk (show ∀ W', Kd.C (Kd.int .u8) W' A0 l0.length l0 → Kd.C (Kd.int .u8) W' A14 z.length z by rw [hA14]; exact hr14)
      have HZ := Aside0.mk hz
      have HCZ := Aside0.mk hcz
      have HRES := Aside0.mk hres
      clear hi1 hi2 hi3 hr14 hA14 hc14 hz hy14 hcz hres hi014 hsz14
      go_wp2
      repeat (go_quiet (fail); try go_wp2)
      go_ret2
      rw [← HZ.out]
      exact ⟨A14, c14, by rw [HRES.out]; rfl, HCZ.out, HR14.out, by first | exact ⟨_, World.drewN_drewN _ _ _⟩ | repeat (first | exact Drawn0.refl _ | apply Drawn0.step)⟩


/-! ### pack_Take: function 19 (given) -/
/-- What is taken of bytes. -/
def pkTake (l0 : List Int) (a1 : Int) : Int × List Int × Int := if okSize a1 = true ∧ a1 ≤ (l0.length : Int) then (tkl 0 (l0.take a1.toNat), l0.drop a1.toNat, 0) else (0, [], 40)
def pack_Take.f (l0 : List Int) (a1 : Int) : Option (Int × List Int × Int) := if l0.length < 140737488355328 then some (pkTake l0 a1) else none
section
variable (w : World) (x y z : Value) (t u v : TypeId) (nd : Nat)
theorem t3_a : ((((w.alloc (.cells #[x] t)).alloc (.cells #[y] u)).alloc (.cells #[z] v)).drewN nd).cell? ⟨w.heap.size, 0, none⟩ = some x := by
  rw [World.cell?_drewN, World.cell?_alloc_past _ _ _ (by simp; omega), World.cell?_alloc_past _ _ _ (by simp), World.cell?_alloc_at _ _ _ _ rfl]; rfl
theorem t3_b : ((((w.alloc (.cells #[x] t)).alloc (.cells #[y] u)).alloc (.cells #[z] v)).drewN nd).cell? ⟨w.heap.size + 1, 0, none⟩ = some y := by
  rw [World.cell?_drewN, World.cell?_alloc_past _ _ _ (by simp), World.cell?_alloc_at _ _ _ _ (by simp)]; rfl
theorem t3_c : ((((w.alloc (.cells #[x] t)).alloc (.cells #[y] u)).alloc (.cells #[z] v)).drewN nd).cell? ⟨w.heap.size + 1 + 1, 0, none⟩ = some z := by
  rw [World.cell?_drewN, World.cell?_alloc_at _ _ _ _ (by simp)]; rfl
theorem s3_a : ((((w.alloc (.cells #[x] t)).alloc (.cells #[y] u)).alloc (.cells #[z] v)).drewN nd).frozen? ⟨w.heap.size, 0, none⟩ = false := by
  rw [World.frozen?_drewN, World.frozen?_alloc_past _ _ _ (by simp; omega), World.frozen?_alloc_past _ _ _ (by simp), World.frozen?_alloc_at _ _ _ _ rfl]
theorem s3_b : ((((w.alloc (.cells #[x] t)).alloc (.cells #[y] u)).alloc (.cells #[z] v)).drewN nd).frozen? ⟨w.heap.size + 1, 0, none⟩ = false := by
  rw [World.frozen?_drewN, World.frozen?_alloc_past _ _ _ (by simp), World.frozen?_alloc_at _ _ _ _ (by simp)]
theorem s3_c : ((((w.alloc (.cells #[x] t)).alloc (.cells #[y] u)).alloc (.cells #[z] v)).drewN nd).frozen? ⟨w.heap.size + 1 + 1, 0, none⟩ = false := by
  rw [World.frozen?_drewN, World.frozen?_alloc_at _ _ _ _ (by simp)]
end
theorem take_nil_ok (p q : Addr) (x y : Value) (w : World) (hpq : p ≠ q) (hc : w.cell? p = some x) (hf : w.frozen? p = false) (hd : w.cell? q = some y) (hg : w.frozen? q = false) :
    Calls Try.prog 39 #[.pointer (some p), .pointer (some q)] w fun e w' => e = .returned (.tuple #[]) ∧ (w.setCell p (.int .i64 0)).setCell q (.slice none 0 0) = w' := by
  have hd2 : (w.setCell p (.int .i64 0)).cell? q = some y := by rw [World.cell?_setCell_other _ _ _ _ hpq]; exact hd
  have hg2 : (w.setCell p (.int .i64 0)).frozen? q = false := by rw [World.frozen?_setCell]; exact hg
  go_enter Try.func39, Try.ntmps39
  go_wp2
  go_end0
  exact ⟨rfl, rfl⟩
theorem res_three (tm : Array Value) (W : World) (a b c : Addr) (x y z : Value) (t4 : tm[4]?.getD undef = .pointer (some a)) (t5 : tm[5]?.getD undef = .pointer (some b)) (t6 : tm[6]?.getD undef = .pointer (some c))
    (k4 : W.cell? a = some x) (k5 : W.cell? b = some y) (k6 : W.cell? c = some z) :
    (results Try.f19 tm).run Try.prog W = .ok (.tuple #[x, y, z]) W := by
  simp [results, Try.results19, go_sem, t4, t5, t6, k4, k5, k6]
theorem take_tail_no (w w1 : World) (x y : Value) (tm : Array Value) (c4 : w1.cell? ⟨w.heap.size, 0, none⟩ = some x) (f4 : w1.frozen? ⟨w.heap.size, 0, none⟩ = false)
    (c5 : w1.cell? ⟨w.heap.size + 1, 0, none⟩ = some y) (f5 : w1.frozen? ⟨w.heap.size + 1, 0, none⟩ = false)
    (c6 : w1.cell? ⟨w.heap.size + 1 + 1, 0, none⟩ = some (.int .i64 0)) (f6 : w1.frozen? ⟨w.heap.size + 1 + 1, 0, none⟩ = false) (z1 : w.heap.size + 3 ≤ w1.heap.size) (hb : Below w.heap.size w w1)
    (t4 : tm[4]?.getD undef = .pointer (some ⟨w.heap.size, 0, none⟩)) (t5 : tm[5]?.getD undef = .pointer (some ⟨w.heap.size + 1, 0, none⟩)) (t6 : tm[6]?.getD undef = .pointer (some ⟨w.heap.size + 1 + 1, 0, none⟩)) :
    Leaves Try.prog Try.f19 tm (fun e w' => ∃ v1_ : Value, e = .returned (.tuple #[.int .i64 0, v1_, .int .i64 40]) ∧ Kd.R (Kd.int .u8) 5 w' w.heap.size (fun _ => True) v1_ [] ∧ Below w.heap.size w w')
      [{ target := Target.fn (Fn.func 30) #[], args := #[.pointer (some ⟨w.heap.size + 1 + 1, 0, none⟩), .func (Fn.func 39) #[] #[.pointer (some ⟨w.heap.size, 0, none⟩), .pointer (some ⟨w.heap.size + 1, 0, none⟩)]] }] (.panicking [wrongE]) w1 := by
  have h1 : w.heap.size < w1.heap.size := by omega
  have h2 : w.heap.size + 1 < w1.heap.size := by omega
  have h3 : w.heap.size + 1 + 1 < w1.heap.size := by omega
  refine leaves_cons (f := 30) (args := #[.pointer (some ⟨w.heap.size + 1 + 1, 0, none⟩), .func (Fn.func 39) #[] #[.pointer (some ⟨w.heap.size, 0, none⟩), .pointer (some ⟨w.heap.size + 1, 0, none⟩)]]) (by simp) (by simp [go_sem]) ?_
  refine (pack_told.wrong ⟨w.heap.size + 1 + 1, 0, none⟩ 39 #[.pointer (some ⟨w.heap.size, 0, none⟩), .pointer (some ⟨w.heap.size + 1, 0, none⟩)] (.int .i64 0) [] w1 (fun w2 => ((w1.alloc (.cells #[] 71)).setCell ⟨w.heap.size, 0, none⟩ (.int .i64 0)).setCell ⟨w.heap.size + 1, 0, none⟩ (.slice none 0 0) = w2) (fun W => by simp [go_sem]) ?_).mono ?_
  · refine (take_nil_ok ⟨w.heap.size, 0, none⟩ ⟨w.heap.size + 1, 0, none⟩ x y _ (by simp) (by rw [World.cell?_alloc_lt _ _ _ h1]; exact c4) (by rw [World.frozen?_alloc_old _ _ _ (Nat.ne_of_lt h1)]; exact f4)
      (by rw [World.cell?_alloc_lt _ _ _ h2]; exact c5) (by rw [World.frozen?_alloc_old _ _ _ (Nat.ne_of_lt h2)]; exact f5)).mono ?_
    rintro e w' ⟨rfl, rfl⟩
    refine ⟨rfl, rfl, ?_, ?_⟩
    · rw [World.cell?_setCell_other _ _ _ _ (by simp), World.cell?_setCell_other _ _ _ _ (by simp), World.cell?_alloc_lt _ _ _ h3]; exact c6
    · rw [World.frozen?_setCell, World.frozen?_setCell, World.frozen?_alloc_old _ _ _ (Nat.ne_of_lt h3)]; exact f6
  · rintro e u' w' ⟨rfl, rfl, w2, rfl, rfl⟩
    have hs : settle (.panicking [wrongR]) = .returning := rfl
    simp only [hs]
    refine ⟨.tuple #[.int .i64 0, .slice none 0 0, .int .i64 40], ?_, .slice none 0 0, rfl, Kd.R_nil _ _ _ _ _, ?_⟩
    · refine res_three _ _ _ _ _ _ _ _ t4 t5 t6 ?_ ?_ ?_
      · rw [World.cell?_setCell_other _ _ _ _ (by simp), World.cell?_setCell_other _ _ _ _ (by simp)]
        exact World.cell?_setCell_same _ _ _ (u := x) (by rw [World.cell?_alloc_lt _ _ _ h1]; exact c4)
      · rw [World.cell?_setCell_other _ _ _ _ (by simp)]
        exact World.cell?_setCell_same _ _ _ (u := y) (by rw [World.cell?_setCell_other _ _ _ _ (by simp), World.cell?_alloc_lt _ _ _ h2]; exact c5)
      · exact World.cell?_setCell_same _ _ _ (u := .int .i64 0) (by rw [World.cell?_setCell_other _ _ _ _ (by simp), World.cell?_setCell_other _ _ _ _ (by simp), World.cell?_alloc_lt _ _ _ h3]; exact c6)
    · exact (((hb.alloc (by omega) _).setCell (p := ⟨w.heap.size, 0, none⟩) (Nat.le_refl _) _).setCell (p := ⟨w.heap.size + 1, 0, none⟩) (by simp) _).setCell (p := ⟨w.heap.size + 1 + 1, 0, none⟩) (by simp; omega) _
set_option maxHeartbeats 8000000 in
set_option maxRecDepth 100000 in
theorem pack_Take.calls (A0 : Option Addr) (c0 : Nat) (l0 : List Int) (a1 : Int) (r1 : Int) (r2 : List Int) (r3 : Int) (w : World) (hr0 : Kd.C (Kd.int .u8) w A0 l0.length l0) (hc0 : l0.length ≤ c0) (h : pack_Take.f l0 a1 = some (r1, r2, r3)) :
    Calls Try.prog 19 #[.slice A0 l0.length c0, .int .i64 a1] w fun e w' => ∃ v1_ : Value, e = .returned (.tuple #[.int .i64 r1, v1_, .int .i64 r3]) ∧ Kd.R (Kd.int .u8) 5 w' w.heap.size (fun _ => True) v1_ r2 ∧ Below w.heap.size w w' := by
  unfold pack_Take.f at h
  by_cases hl : l0.length < 140737488355328
  · rw [if_pos hl] at h
    have h := Option.some.inj h
    have HL := Aside0.mk hl
    have HR0 := Aside0.mk hr0
    have HC0 := Aside0.mk hc0
    have HL8 := Aside0.mk (show (l0.length : Int) * 8 ≤ 9223372036854775807 by omega)
    clear hr0 hc0 hl
    have hmf : ∀ (fn : Fn) (first cap : Array Value) (W : World), (Instr.makeFunc fn first cap).run Try.prog W = .ok (.func fn first cap) W := fun _ _ _ _ => rfl
    by_cases hm : okSize a1 = true ∧ a1 ≤ (l0.length : Int)
    · have hz : (r1, r2, r3) = (tkl 0 (l0.take a1.toNat), l0.drop a1.toNat, 0) := by rw [← h]; simp [pkTake, hm]
      simp only [Prod.mk.injEq] at hz
      obtain ⟨rfl, rfl, rfl⟩ := hz
      have HK := Aside0.mk hm.1
      have HM := Aside0.mk hm.2
      clear hm h
      obtain ⟨z, hz⟩ : ∃ z : List Int, z = l0.drop a1.toNat := ⟨_, rfl⟩
      have HZ := Aside0.mk hz
      have HZL := Aside0.mk (show z.length ≤ l0.length by rw [hz, List.length_drop]; omega)
      have hcf : slices_Clone_byte_byte.f z = some z := by unfold slices_Clone_byte_byte.f; rw [if_pos (by have := HL.out; have := HZL.out; omega)]
      have HCF := Aside0.mk hcf
      rw [← hz]
      clear hz hcf
      go_enter_defers Try.func19, Try.ntmps19
      go_wp2_with (first | (go_at_call 40; (with_reducible refine (pack_take.ok A0 c0 l0 a1 HL8.out HK.out HM.out _ ?s1 HC0.out).mono ?_); (case s1 => repeat (first | exact HR0.out | (with_reducible refine Kd.C_alloc ?_ _))); rintro e w1 ⟨A1, c1, rfl, hc1, hr1, ⟨nd, rfl⟩⟩; rw [← HZ.out] at hr1 hc1; rw [← HZ.out]; have HC1 := Aside0.mk hc1; have HR1 := Aside0.mk hr1; clear hc1 hr1))
      generalize hW5 : World.setCell _ _ _ = W5
      have hb5 : Below w.heap.size w W5 := by
        rw [← hW5]
        exact ((pw_below_drewN (below_alloc (below_alloc (below_alloc (Below.refl _ _) _) _) _) _).setCell (p := ⟨w.heap.size, 0, none⟩) (Nat.le_refl _) _).setCell (p := ⟨w.heap.size + 1, 0, none⟩) (by simp) _
      have z5 : w.heap.size + 3 ≤ W5.heap.size := by rw [← hW5]; simp
      have c4 : W5.cell? ⟨w.heap.size, 0, none⟩ = some (.int .i64 (tkl 0 (l0.take a1.toNat))) := by
        rw [← hW5, World.cell?_setCell_other _ _ _ _ (by simp)]
        exact World.cell?_setCell_same _ _ _ (t3_a _ _ _ _ _ _ _ _)
      have c5 : W5.cell? ⟨w.heap.size + 1, 0, none⟩ = some (.slice A1 z.length c1) := by
        rw [← hW5]
        exact World.cell?_setCell_same _ _ _ (by rw [World.cell?_setCell_other _ _ _ _ (by simp)]; exact t3_b _ _ _ _ _ _ _ _)
      have c6 : W5.cell? ⟨w.heap.size + 1 + 1, 0, none⟩ = some (.int .i64 0) := by
        rw [← hW5, World.cell?_setCell_other _ _ _ _ (by simp), World.cell?_setCell_other _ _ _ _ (by simp)]; exact t3_c _ _ _ _ _ _ _ _
      have f4 : W5.frozen? ⟨w.heap.size, 0, none⟩ = false := by rw [← hW5, World.frozen?_setCell, World.frozen?_setCell]; exact s3_a _ _ _ _ _ _ _ _
      have f5 : W5.frozen? ⟨w.heap.size + 1, 0, none⟩ = false := by rw [← hW5, World.frozen?_setCell, World.frozen?_setCell]; exact s3_b _ _ _ _ _ _ _ _
      have f6 : W5.frozen? ⟨w.heap.size + 1 + 1, 0, none⟩ = false := by rw [← hW5, World.frozen?_setCell, World.frozen?_setCell]; exact s3_c _ _ _ _ _ _ _ _
      have HR5 := Aside0.mk (HR1.out W5 (Kd.C_below HR0.out hb5))
      have HB5 := Aside0.mk hb5
      have HZ5 := Aside0.mk z5
      clear hW5 hb5 z5
      go_region_with (first | (go_at_call 34; (with_reducible refine (slices_Clone_byte_byte.calls A1 c1 z z _ ?s1 HC1.out HCF.out).mono ?_); (case s1 => repeat (first | exact HR5.out | (with_reducible refine Kd.C_drewN ?_ _) | (with_reducible refine Kd.C_drew ?_))); rintro e w3 ⟨v3, rfl, hR3, hb3⟩; obtain ⟨Ao3, co3, eo3⟩ := Kd.R_slice hR3; subst eo3; have z3 := HZ5.out; have d4 := (hb3.cell (p := ⟨w.heap.size, 0, none⟩) (show w.heap.size < _ by simp; omega)).trans (show _ = _ from c4); have g4 := (hb3.frozen (p := ⟨w.heap.size, 0, none⟩) (show w.heap.size < _ by simp; omega)).trans (show _ = _ from f4); have d5 := (hb3.cell (p := ⟨w.heap.size + 1, 0, none⟩) (show w.heap.size + 1 < _ by simp; omega)).trans (show _ = _ from c5); have g5 := (hb3.frozen (p := ⟨w.heap.size + 1, 0, none⟩) (show w.heap.size + 1 < _ by simp; omega)).trans (show _ = _ from f5); have d6 := (hb3.cell (p := ⟨w.heap.size + 1 + 1, 0, none⟩) (show w.heap.size + 1 + 1 < _ by simp; omega)).trans (show _ = _ from c6); have g6 := (hb3.frozen (p := ⟨w.heap.size + 1 + 1, 0, none⟩) (show w.heap.size + 1 + 1 < _ by simp; omega)).trans (show _ = _ from f6); have HR3 := Aside0.mk hR3; have HB3 := Aside0.mk hb3; clear hR3 hb3 z3))
      all_goals
        go_wp2
        simp only [bodyPostD]
        refine leaves_cons (f := 30) (args := #[.pointer (some ⟨w.heap.size + 1 + 1, 0, none⟩), .func (Fn.func 39) #[] #[.pointer (some ⟨w.heap.size, 0, none⟩), .pointer (some ⟨w.heap.size + 1, 0, none⟩)]]) (by simp) (by simp [go_sem]) ?_
        refine (pack_told.idle _ _ _).mono ?_
        rintro e u' w' ⟨rfl, rfl, rfl⟩
        have hs : settle .returning = .returning := rfl
        simp only [hs]
        refine ⟨.tuple #[.int .i64 (tkl 0 (l0.take a1.toNat)), .slice Ao3 z.length co3, .int .i64 0], ?_, _, rfl, ?_, ?_⟩
        · refine res_three _ _ _ _ _ _ _ _ rfl rfl rfl ?_ ?_ ?_
          · rw [World.cell?_setCell_other _ _ _ _ (by simp), World.cell?_setCell_other _ _ _ _ (by simp)]
            exact World.cell?_setCell_same _ _ _ d4
          · rw [World.cell?_setCell_other _ _ _ _ (by simp)]
            exact World.cell?_setCell_same _ _ _ (by rw [World.cell?_setCell_other _ _ _ _ (by simp)]; exact d5)
          · exact World.cell?_setCell_same _ _ _ (by rw [World.cell?_setCell_other _ _ _ _ (by simp), World.cell?_setCell_other _ _ _ _ (by simp)]; exact d6)
        · have r1 := Kd.R_bound HR3.out
          have hz5 := HZ5.out
          exact Kd.R_mono (Kd.R_lower (Kd.R_far (Kd.R_far (Kd.R_far r1 (fun k hk => by have := hk.2.1; simp at this; simp; omega) _) (fun k hk => by have := hk.2.1; simp at this; simp; omega) _) (fun k hk => by have := hk.2.1; simp at this; simp; omega) _) (by simp; omega)) (fun _ _ => trivial)
        · have hz5 := HZ5.out
          have hb : Below w.heap.size w w3 := HB5.out.trans ((Below.drew (Below.refl _ _)).trans (HB3.out.mono (by simp; omega)))
          exact ((hb.setCell (p := ⟨w.heap.size, 0, none⟩) (Nat.le_refl _) _).setCell (p := ⟨w.heap.size + 1, 0, none⟩) (by simp) _).setCell (p := ⟨w.heap.size + 1 + 1, 0, none⟩) (by simp; omega) _
    · have hm' : okSize a1 = false ∨ (l0.length : Int) < a1 := by
        by_cases hk : okSize a1 = true
        · right; by_cases h2 : a1 ≤ (l0.length : Int)
          · exact absurd ⟨hk, h2⟩ hm
          · omega
        · left; simpa using hk
      have hz : (r1, r2, r3) = (0, [], 40) := by rw [← h]; unfold pkTake; rw [if_neg hm]
      simp only [Prod.mk.injEq] at hz
      obtain ⟨rfl, rfl, rfl⟩ := hz
      have HM := Aside0.mk hm'
      clear hm hm' h
      go_enter_defers Try.func19, Try.ntmps19
      go_wp2_with (first | (go_at_call 40; (with_reducible refine (pack_take.no A0 c0 l0 a1 HL8.out HM.out _).mono ?_); rintro e w1 ⟨rfl, rfl⟩))
      simp only [bodyPostD]
      exact take_tail_no w _ _ _ _ (t3_a _ _ _ _ _ _ _ 0) (s3_a _ _ _ _ _ _ _ 0) (t3_b _ _ _ _ _ _ _ 0) (s3_b _ _ _ _ _ _ _ 0) (t3_c _ _ _ _ _ _ _ 0) (s3_c _ _ _ _ _ _ _ 0) (by simp) (below_alloc (below_alloc (below_alloc (Below.refl _ _) _) _) _) rfl rfl rfl
  · rw [if_neg hl] at h; cases h


end Go.Proofs.Ytchmfdaebohplaa.A
