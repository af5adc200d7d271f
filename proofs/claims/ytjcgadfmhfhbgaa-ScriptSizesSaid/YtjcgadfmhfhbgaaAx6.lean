/- Lean functions that answer as the Go functions do, and the proofs that they do; no conditions. Written by this session's own driver: a scratch copy of the kit's print with the session's additions (wip/xprint). -/
import Derived.Test.YtjcgadfmhfhbgaaAx0
import Derived.Test.YtjcgadfmhfhbgaaAx3
import Derived.Test.YtjcgadfmhfhbgaaAx4
import Derived.Test.YtjcgadfmhfhbgaaAx5
namespace Go.Proofs.Ytjcgadfmhfhbgaa.A
open Go.RowKit Go.Proofs.YtjcgadfmhfhbgaaW.PrintWords Go.Proofs.YtjcgadfmhfhbgaaW.PrintLast Go.Proofs.YtjcgadfmhfhbgaaW.PrintMore
attribute [local go_sem] max2_int min2_int max_two min_two max_three min_three max_four min_four
set_option linter.unusedVariables false
set_option linter.unusedSimpArgs false
def L17_0 : Array Bool := #[false, false, false, false, false, false, false, false, false, false, false, false]
def L17_1 : Array Bool := #[true, false, false, false, false, false, false, false, false, false, false, false]
def L17_2 : Array Bool := #[true, true, false, false, false, false, false, false, false, false, false, false]
def L17_3 : Array Bool := #[true, true, false, false, false, true, false, false, false, false, false, false]
def L17_4 : Array Bool := #[true, true, true, false, false, true, false, false, false, false, false, false]
def L17_5 : Array Bool := #[true, true, true, false, false, true, true, false, false, false, false, false]
def L17_6 : Array Bool := #[true, true, true, true, false, true, true, false, false, false, false, false]
def L17_7 : Array Bool := #[true, true, true, true, true, true, true, false, false, false, false, false]
def L17_8 : Array Bool := #[true, true, true, true, true, true, true, true, false, false, false, false]
def L17_9 : Array Bool := #[true, true, true, true, true, true, true, true, true, false, false, false]
def L17_10 : Array Bool := #[true, true, true, true, true, true, true, true, true, true, false, false]
def L17_11 : Array Bool := #[true, true, true, true, true, true, true, true, true, true, true, false]
def L17_12 : Array Bool := #[true, true, true, true, true, true, true, true, true, true, true, true]
def wire_Write.l0 : Nat → List Int → List (S48) → Int → Int → Option (List Int × Int)
 | 0, _, _, _, _ => none
 | k + 1, x4, x14, x15, x16 => if x16 < x15 then (if 0 ≤ x16 then (if x16 < (x14.length : Int) then ((wire_put.f k x4 (([(rd_T48 x14 x16).f0] : List Int))).bind fun t139 => ((pack_List.f t139 ((rd_T48 x14 x16).f1) 1).bind fun bt142 => ((pack_List.f bt142.1 ((rd_T48 x14 x16).f2) 8).bind fun bt146 => (wire_Write.l0 k bt146.1 x14 x15 (wrap64 (x16 + 1)))))) else (none)) else (none)) else (some (x4, 0))
def wire_Write.f (k : Nat) (l0 : List (S48)) : Option (List Int × Int) := (graph_Check.f l0).bind fun t127 => (if t127 = true then ((wire_put.f k ([] : List Int) (([(l0.length : Int)] : List Int))).bind fun t131 => (wire_Write.l0 k t131 l0 (l0.length : Int) 0)) else (some (([] : List Int), 100)))
theorem wire_Write.mono_l : ∀ k, (∀ y0 y1 y2 y3, LeO (wire_Write.l0 k y0 y1 y2 y3) (wire_Write.l0 (k + 1) y0 y1 y2 y3))
 | 0 => fun _ _ _ _ r h => by simp [wire_Write.l0] at h
 | k + 1 => by
  have ih0 := wire_Write.mono_l k
  ·intro y0 y1 y2 y3
   unfold wire_Write.l0
   repeat' first
    | (with_reducible first | exact ih0 _ _ _ _ | exact wire_put.mono _ _ _ | exact LeO.refl _ | exact LeO.none _ | refine LeO.ite ?_ ?_ | refine LeO.bind ?_ (fun _ => ?_))
    | first | exact ih0 _ _ _ _ | exact wire_put.mono _ _ _ | exact LeO.none _ | refine LeO.ite ?_ ?_ | refine LeO.bind ?_ (fun _ => ?_)
theorem wire_Write.mono : ∀ a0 k, LeO (wire_Write.f k a0) (wire_Write.f (k + 1) a0) := by
 intro a0 k
 have ih0 := wire_Write.mono_l k
 unfold wire_Write.f
 repeat' first
  | (with_reducible first | exact ih0 _ _ _ _ | exact wire_put.mono _ _ _ | exact LeO.refl _ | exact LeO.none _ | refine LeO.ite ?_ ?_ | refine LeO.bind ?_ (fun _ => ?_))
  | first | exact ih0 _ _ _ _ | exact wire_put.mono _ _ _ | exact LeO.none _ | refine LeO.ite ?_ ?_ | refine LeO.bind ?_ (fun _ => ?_)
def wire_Write.T7 : Bool × List (List Nat × List Nat) := (true, [([], []), ([], []), ([1], [1]), ([2], [2]), ([0, 3], [0, 3]), ([], []), ([5], [5]), ([4, 6, 4], [4, 6]), ([7], [7]), ([8], [8]), ([8], [8]), ([9, 7, 0, 1, 2, 3, 4, 5, 6, 7, 8, 9], [0, 9])])
def wire_Write.B7 : List Nat := [0, 0, 2, 6, 15, 0, 32, 127, 255, 511, 511, 1023]
theorem wire_Write.tab7 : rtab .any (opsOf Try.f17 7) = wire_Write.T7 := by kernel_rfl
theorem wire_Write.bits7 : waitsOk wire_Write.T7.2 wire_Write.B7 = true := by kernel_rfl
set_option maxHeartbeats 8000000 in
set_option maxRecDepth 100000 in
theorem wire_Write.calls (k : Nat) (A0 : Option Addr) (c0 : Nat) (l0 : List (S48)) (r1 : List Int) (r2 : Int) (w : World) (hr0 : Kd.C k48 w A0 l0.length l0) (hc0 : l0.length ≤ c0) (h : wire_Write.f k l0 = some (r1, r2)) :
  Calls Try.prog 17 #[.slice A0 l0.length c0] w fun e w' => ∃ v0_ : Value, e = .returned (.tuple #[v0_, .int .i64 r2]) ∧ Kd.R (Kd.int .u8) 5 w' w.heap.size (fun _ => True) v0_ r1 ∧ Below w.heap.size w w' := by
 have hu48 := Try.underlying48
 have HR0 := Aside0.mk hr0
 have HC0 := Aside0.mk hc0
 clear hr0 hc0
 have HB := Aside0.mk (Below.refl w.heap.size w)
 have H : ((graph_Check.f l0).bind fun t127 => (if t127 = true then ((wire_put.f k ([] : List Int) (([(l0.length : Int)] : List Int))).bind fun t131 => (wire_Write.l0 k t131 l0 (l0.length : Int) 0)) else (some (([] : List Int), 100)))) = some (r1, r2) := h
 clear h
 replace H := Option.bind_eq_some_iff.mp H
 obtain ⟨t127, A20, H⟩ := H
 replace H : (if t127 = true then ((wire_put.f k ([] : List Int) (([(l0.length : Int)] : List Int))).bind fun t131 => (wire_Write.l0 k t131 l0 (l0.length : Int) 0)) else (some (([] : List Int), 100))) = some (r1, r2) := H
 have A2 := Aside0.mk A20
 clear A20
 by_cases c3 : t127 = true
 ·subst c3
  have H1 : ((wire_put.f k ([] : List Int) (([(l0.length : Int)] : List Int))).bind fun t131 => (wire_Write.l0 k t131 l0 (l0.length : Int) 0)) = some (r1, r2) := by rw [if_pos rfl] at H; exact H
  clear H
  have H := H1
  clear H1
  obtain ⟨y128, hy128⟩ : ∃ y_ : List Int, y_ = (([(l0.length : Int)] : List Int)) := ⟨_, rfl⟩
  replace H : ((wire_put.f k ([] : List Int) y128).bind fun t131 => (wire_Write.l0 k t131 l0 (l0.length : Int) 0)) = some (r1, r2) := by first | (rw [hy128]; with_reducible exact H) | (have H2_ := (Option.bind_some _ _).symm.trans H; rw [hy128]; with_reducible exact H2_) | (have H2_ := (Option.bind_some _ _).symm.trans H; with_reducible exact H2_) | with_reducible exact H | (rw [hy128]; exact H) | exact H
  have Ny128 := Aside0.mk hy128
  clear hy128
  replace H := Option.bind_eq_some_iff.mp H
  obtain ⟨t131, A40, H⟩ := H
  replace H : (wire_Write.l0 k t131 l0 (l0.length : Int) 0) = some (r1, r2) := H
  have A4 := Aside0.mk A40
  clear A40
  have H' := Aside0.mk H
  clear H
  go_enter Try.func17, Try.ntmps17
  go_wp2_with (first | ((with_reducible refine gate_callee (f := 30) rfl ?_); refine gL_ (some 8) Try.func30 #[.slice A0 l0.length c0] ?_; (with_reducible refine (graph_Check.calls _ _ l0 true _ ?side1 ?side2 A2.out).mono ?_); (case side1 => exact mvC_ (HR0.out)); (case side2 => exact HC0.out); rintro e w5 ⟨rfl, hb⟩; refine ⟨_, rfl, ?_⟩; replace HB := Aside0.mk (below_step (bq0_ HB.out) hb); (try clear hb)) | ((with_reducible refine gate_dst (N := 12) rfl ?_); refine Kd.R_lit (Kd.int .i64) _ 3 ?hg (N := 12) ?hd (xs := ([(l0.length : Int)] : List Int)) (inner := [.int .i64 (l0.length : Int)]) (ok := fun _ => True) (okp := fun _ => True) ?hr ?hp (fun _ hk => hk) trivial (Below.refl _ _) (Nat.le_refl _) (by simp) ?_; (case hd => rfl); (case hg => rfl); (case hr => first | (go_simp; done) | (go_simp; rfl)); (case hp => exact (Reps.one (show Kd.M (Kd.int .i64) _ _ _ (l0.length : Int) [.int .i64 (l0.length : Int)] from rfl) (Reps.none _ _))); intro v129 w6 ho7 hb hg_ hnew_; clear hg_ hnew_; (first | rw [← Ny128.out] at ho7 | (simp only [Int.reduceToNat] at ho7; rw [← Ny128.out] at ho7)); have HO130 := Aside0.mk (Kd.R_lower ho7 (below_size (bq0_ HB.out))); replace HB := Aside0.mk (below_step (bq0_ HB.out) hb); clear hb ho7; obtain ⟨Ao8, co8, eo8⟩ := Kd.R_slice HO130.out; subst eo8) | ((with_reducible refine gate_callee (f := 38) rfl ?_); refine gL_ (some 13) Try.func38 #[.slice none 0 0, .slice Ao8 y128.length co8] ?_; (refine (wire_put.calls k (fun k_ => some k_ = (.slice none 0 0 : Value).ownBlock) (.slice none 0 0) ([] : List Int) _ _ y128 t131 w _ ?side1 ?side2 ?side3 ?side4 A4.out).mono ?_); (case side1 => repeat (first | (with_reducible first | exact HB.out | apply below_alloc | apply pw_below_drewN | apply below_drew1) | exact HB.out)); (case side2 => exact Kd.R_nil _ _ _ _ _); (case side3 => exact Kd.C_kept_own (HO130.out) (fun k_ hk_ hs_ => (fun e_ => by simp [Value.ownBlock] at e_) hs_)); (case side4 => exact (Kd.R_reads' HO130.out).2.1); rintro e w9 ⟨v132, rfl, ho0, hb, hkp⟩; refine ⟨_, rfl, ?_⟩; have HO133 := Aside0.mk (Kd.R_mono (ok' := fun k_ => True) ho0 (fun k_ hk_ => trivial)); replace HO130 := Aside0.mk (Kd.R_mono (ok' := fun k_ => True) (Kd.R_keptB (HO130.out) hkp (fun k_ hk_ hs_ => (fun e_ => by simp [Value.ownBlock] at e_) hs_)) (fun k_ hk_ => trivial)); replace HB := Aside0.mk (hb); (try clear hb); (try clear hkp); (try clear ho0)))
  go_loopg [4, 16] k (fun kq v4 v16 w' => ∃ (x4_1 : List Int) (x16_1 : Int), v16 = .int .i64 x16_1 ∧ Aside0 (wire_Write.l0 kq x4_1 l0 (l0.length : Int) x16_1 = some (r1, r2)) ∧ Aside0 (kq ≤ k) ∧ Aside0 (Kd.R (Kd.int .u8) 5 w' w.heap.size (fun _ => True) v4 x4_1) ∧ Aside0 (Below w.heap.size w w'))
  case atStart => exact ⟨(t131), (0), (by first | rfl | (simp; done) | (simp [*]; done)), H', ⟨Nat.le_refl _⟩, ⟨mvR_ HO133.out⟩, ⟨bq0_ HB.out⟩⟩
  case round =>
   clear H'
   try clear c1
   try clear p2
   try clear c3
   obtain ⟨x4_1, x16_1, rfl, HA, HK1, HO_4, HB⟩ := hrel
   cases gk with
   | zero => exact absurd HA.out (by simp [wire_Write.l0])
   | succ k1 =>
    have H := HA.out
    clear HA
    simp only [wire_Write.l0] at H
    by_cases c10 : x16_1 < (l0.length : Int)
    ·rw [if_pos c10] at H
     have c10b0 : decide (x16_1 < (l0.length : Int)) = true := decide_eq_true c10
     clear c10
     by_cases c11 : 0 ≤ x16_1
     ·rw [if_pos c11] at H
      have c11b0 : decide (0 ≤ x16_1) = true := decide_eq_true c11
      clear c11
      by_cases c12 : x16_1 < (l0.length : Int)
      ·rw [if_pos c12] at H
       have c12b0 : decide (x16_1 < (l0.length : Int)) = true := decide_eq_true c12
       clear c12
       obtain ⟨y136, hy136⟩ : ∃ y_ : List Int, y_ = (([(rd_T48 l0 x16_1).f0] : List Int)) := ⟨_, rfl⟩
       replace H : ((wire_put.f k1 x4_1 y136).bind fun t139 => ((pack_List.f t139 ((rd_T48 l0 x16_1).f1) 1).bind fun bt142 => ((pack_List.f bt142.1 ((rd_T48 l0 x16_1).f2) 8).bind fun bt146 => (wire_Write.l0 k1 bt146.1 l0 (l0.length : Int) (wrap64 (x16_1 + 1)))))) = some (r1, r2) := by first | (rw [hy136]; with_reducible exact H) | (have H2_ := (Option.bind_some _ _).symm.trans H; rw [hy136]; with_reducible exact H2_) | (have H2_ := (Option.bind_some _ _).symm.trans H; with_reducible exact H2_) | with_reducible exact H | (rw [hy136]; exact H) | exact H
       have Ny136 := Aside0.mk hy136
       clear hy136
       replace H := Option.bind_eq_some_iff.mp H
       obtain ⟨t139, A130, H⟩ := H
       replace H : ((pack_List.f t139 ((rd_T48 l0 x16_1).f1) 1).bind fun bt142 => ((pack_List.f bt142.1 ((rd_T48 l0 x16_1).f2) 8).bind fun bt146 => (wire_Write.l0 k1 bt146.1 l0 (l0.length : Int) (wrap64 (x16_1 + 1))))) = some (r1, r2) := H
       have A13 := Aside0.mk A130
       clear A130
       replace H := Option.bind_eq_some_iff.mp H
       obtain ⟨⟨t142, t143⟩, A140, H⟩ := H
       replace H : ((pack_List.f t142 ((rd_T48 l0 x16_1).f2) 8).bind fun bt146 => (wire_Write.l0 k1 bt146.1 l0 (l0.length : Int) (wrap64 (x16_1 + 1)))) = some (r1, r2) := H
       have A14 := Aside0.mk A140
       clear A140
       replace H := Option.bind_eq_some_iff.mp H
       obtain ⟨⟨t146, t147⟩, A150, H⟩ := H
       replace H : (wire_Write.l0 k1 t146 l0 (l0.length : Int) (wrap64 (x16_1 + 1))) = some (r1, r2) := H
       have A15 := Aside0.mk A150
       clear A150
       have H' := Aside0.mk H
       clear H
       have p134 : 0 ≤ (x16_1 : Int) := od_
       have q134 : x16_1 < (l0.length : Int) := od_
       obtain ⟨ad134, A134_1, c134_1, A134_2, c134_2, e134, hx134_0, hx134_1, hx134_2, hl134_1, hi134_1, hl134_2, hi134_2⟩ := at_T48 HR0.out x16_1 p134 q134
       cases e134
       replace hx134_0 := hb_ HB hx134_0
       replace hx134_1 := hb_ HB hx134_1
       replace hx134_2 := hb_ HB hx134_2
       have HR134_1 := Aside0.mk hi134_1
       have HC134_1 := Aside0.mk hl134_1
       clear hi134_1 hl134_1
       have HR134_2 := Aside0.mk hi134_2
       have HC134_2 := Aside0.mk hl134_2
       clear hi134_2 hl134_2
       replace p134 := eq_true p134
       replace q134 := eq_true q134
       try go_wp2_with (first | ((with_reducible refine gate_dst (N := 6) rfl ?_); refine box_event ?hg (N := 6) ?hd (cs := #[.int .i64 0, .slice none 0 0, .slice none 0 0]) (t := 48) ?hr ?_; (case hd => rfl); (case hg => rfl); (case hr => first | (go_simp; done) | (go_simp; rfl)); intro gb135 hg w16 hbox hb; have BK135 := Aside0.mk (hbox); have GW135 := Aside0.mk ((by rw [hg]; exact (below_size (bq0_ HB.out)) : w.heap.size ≤ gb135)); have GE135 := Aside0.mk ((by rw [hg]; exact (below_size (bq0_ HB.out)) : w.heap.size ≤ gb135)); replace HO_4 := mbR_ HO_4.out hb; replace HB := Aside0.mk (below_step (bq0_ HB.out) hb); clear hb hbox hg; have hcz17_0 := cz0_ BK135.out; have hcz17_1 := cz1_ BK135.out; have hcz17_2 := cz2_ BK135.out; have hfz17_0 := blk_frozen BK135.out 0; have hfz17_1 := blk_frozen BK135.out 1; have hfz17_2 := blk_frozen BK135.out 2))
       have n0_ : Aside0 (Kd.R (Kd.int .u8) 5 (((w16.setCell ⟨gb135, 0, none⟩ (.int .i64 ((rd_T48 l0 x16_1).f0))).setCell ⟨gb135, 1, none⟩ (.slice A134_1 ((rd_T48 l0 x16_1).f1).length c134_1)).setCell ⟨gb135, 2, none⟩ (.slice A134_2 ((rd_T48 l0 x16_1).f2).length c134_2)) w.heap.size (fun _ => True) u4 x4_1) := ⟨by (with_reducible repeat (first | apply Kd.R_alloc | apply Kd.R_drewN | apply Kd.R_drew)); exact Kd.R_mono (Kd.R_far (p := ⟨gb135, 2, none⟩) (Kd.R_far (p := ⟨gb135, 1, none⟩) (Kd.R_far (p := ⟨gb135, 0, none⟩) (Kd.R_types HO_4.out BK135.out (by decide)) (fun _ hk => hk.2) (.int .i64 ((rd_T48 l0 x16_1).f0))) (fun _ hk => hk.2) (.slice A134_1 ((rd_T48 l0 x16_1).f1).length c134_1)) (fun _ hk => hk.2) (.slice A134_2 ((rd_T48 l0 x16_1).f2).length c134_2)) (fun _ hk => trivial)⟩
       have n1_ : Aside0 ((((w16.setCell ⟨gb135, 0, none⟩ (.int .i64 ((rd_T48 l0 x16_1).f0))).setCell ⟨gb135, 1, none⟩ (.slice A134_1 ((rd_T48 l0 x16_1).f1).length c134_1)).setCell ⟨gb135, 2, none⟩ (.slice A134_2 ((rd_T48 l0 x16_1).f2).length c134_2)).heap[gb135]? = some (.cells #[.int .i64 ((rd_T48 l0 x16_1).f0), .slice A134_1 ((rd_T48 l0 x16_1).f1).length c134_1, .slice A134_2 ((rd_T48 l0 x16_1).f2).length c134_2] 48 (0, 0))) := ⟨by (with_reducible repeat (first | refine blk_drewN ?_ _ | refine blk_drew ?_ | refine blk_alloc ?_ _)); refine blk_put (cs := #[.int .i64 ((rd_T48 l0 x16_1).f0), .slice A134_1 ((rd_T48 l0 x16_1).f1).length c134_1, .slice none 0 0]) ?_ 2 _ rfl; (with_reducible repeat (first | refine blk_drewN ?_ _ | refine blk_drew ?_ | refine blk_alloc ?_ _)); refine blk_put (cs := #[.int .i64 ((rd_T48 l0 x16_1).f0), .slice none 0 0, .slice none 0 0]) ?_ 1 _ rfl; (with_reducible repeat (first | refine blk_drewN ?_ _ | refine blk_drew ?_ | refine blk_alloc ?_ _)); refine blk_put (cs := #[.int .i64 0, .slice none 0 0, .slice none 0 0]) ?_ 0 _ rfl; (with_reducible repeat (first | refine blk_drewN ?_ _ | refine blk_drew ?_ | refine blk_alloc ?_ _)); exact BK135.out⟩
       have n2_ : Aside0 (Below w.heap.size w (((w16.setCell ⟨gb135, 0, none⟩ (.int .i64 ((rd_T48 l0 x16_1).f0))).setCell ⟨gb135, 1, none⟩ (.slice A134_1 ((rd_T48 l0 x16_1).f1).length c134_1)).setCell ⟨gb135, 2, none⟩ (.slice A134_2 ((rd_T48 l0 x16_1).f2).length c134_2))) := ⟨bq1_ HB.out GE135.out⟩
       (try clear HO_4)
       (try clear BK135)
       (try clear HB)
       generalize (((w16.setCell ⟨gb135, 0, none⟩ (.int .i64 ((rd_T48 l0 x16_1).f0))).setCell ⟨gb135, 1, none⟩ (.slice A134_1 ((rd_T48 l0 x16_1).f1).length c134_1)).setCell ⟨gb135, 2, none⟩ (.slice A134_2 ((rd_T48 l0 x16_1).f2).length c134_2)) = w18 at n0_ n1_ n2_ ⊢
       have HO_4 := n0_
       have BK135 := n1_
       have HB := n2_
       clear n0_ n1_ n2_
       replace HO_4 := Aside0.mk (Kd.R_drew HO_4.out)
       replace BK135 := Aside0.mk (blk_drew BK135.out)
       replace HB := Aside0.mk (below_drew1 HB.out)
       refine start_ (n := 12) (S := fun w' => w'.cell? ⟨gb135, 0, none⟩ = some (.int .i64 ((rd_T48 l0 x16_1).f0)) ∧ w'.cell? ⟨gb135, 1, none⟩ = some (.slice A134_1 ((rd_T48 l0 x16_1).f1).length c134_1) ∧ w'.cell? ⟨gb135, 2, none⟩ = some (.slice A134_2 ((rd_T48 l0 x16_1).f2).length c134_2)) (ds := []) L17_0 (by kernel_rfl) rfl rfl ⟨(blk_cell BK135.out 0).trans rfl, (blk_cell BK135.out 1).trans rfl, (blk_cell BK135.out 2).trans rfl⟩ (fun hHeld => ?_); refine with_tabW wire_Write.tab7 wire_Write.bits7 (fun HT_ HW_ => ?_)
       generalize w18.drew = w19 at HO_4 BK135 HB hHeld ⊢
       refine pu_ 0 (some 21) L17_1 HT_ ?_
       refine pu_ 1 (some 22) L17_2 HT_ ?_
       refine pu_ 5 (some 26) L17_3 HT_ ?_
       refine ta_ 2 (some 23) L17_4 HT_ HW_ hHeld ?_ (hy := by rintro w' ⟨s0, s1, s2⟩; go_simp; with_reducible rfl)
       refine ta_ 6 (some 27) L17_5 HT_ HW_ hHeld ?_ (hy := by rintro w' ⟨s0, s1, s2⟩; go_simp; with_reducible rfl)
       refine one_ (i := 3) (N := some 24) L17_6 rfl rfl (one_of HT_.out (by kernel_rfl)) (by decide) (fun K hK => ?_)
       refine Kd.R_lit_step (Kd.int .i64) _ 3 ?hg (N := 24) ?hd (xs := ([(rd_T48 l0 x16_1).f0] : List Int)) (inner := [.int .i64 ((rd_T48 l0 x16_1).f0)]) (ok := fun _ => True) (okp := fun _ => True) ?hr ?hp (fun _ hk => hk) trivial (Below.refl _ _) (Nat.le_refl _) (by simp) ?_; (case hd => rfl); (case hg => rfl); (case hr => first | (go_simp; done) | (go_simp; rfl)); (case hp => exact (Reps.one (show Kd.M (Kd.int .i64) _ _ _ ((rd_T48 l0 x16_1).f0) [.int .i64 ((rd_T48 l0 x16_1).f0)] from rfl) (Reps.none _ _)))
       intro v137 w20 ho21 hb hg_ hnew_
       clear hg_ hnew_
       (first | rw [← Ny136.out] at ho21 | (simp only [Int.reduceToNat] at ho21; rw [← Ny136.out] at ho21))
       have n0_ := mbR_ HO_4.out hb
       have n1_ := Aside0.mk (Kd.R_lower ho21 (below_size (bq1_ HB.out GE135.out)))
       have n2_ := mvB_ BK135.out hb
       have n3_ := Aside0.mk (below_step (bq1_ HB.out GE135.out) hb)
       clear HO_4 BK135 HB
       have HO_4 := n0_
       have HO138 := n1_
       have BK135 := n2_
       have HB := n3_
       clear n0_ n1_ n2_ n3_ hb ho21
       obtain ⟨Ao22, co22, eo22⟩ := Kd.R_slice HO_4.out
       (first | subst eo22 | (injection eo22 with f1_ f2_ f3_; have f4_ := f1_.symm; have f5_ := f3_.symm; clear f1_ f2_ f3_; subst f4_; subst f5_))
       obtain ⟨Ao23, co23, eo23⟩ := Kd.R_slice HO138.out
       (first | subst eo23 | (injection eo23 with f1_ f2_ f3_; have f4_ := f1_.symm; have f5_ := f3_.symm; clear f1_ f2_ f3_; subst f4_; subst f5_))
       refine hK.out _ _ ⟨(blk_cell BK135.out 0).trans rfl, (blk_cell BK135.out 1).trans rfl, (blk_cell BK135.out 2).trans rfl⟩ (fun hHeld => ?_)
       clear hK K
       refine norm_ (a' := ?_) ?_ ?_
       rotate_left
       ·show Act.put _ (some 24) _ = _
        simp only [Act.put, sA_, sB_, sC_, i64_w, i32_w]
        rfl
       refine one_ (i := 4) (N := some 25) L17_7 rfl rfl (one_of HT_.out (by kernel_rfl)) (by decide) (fun K hK => ?_)
       refine goes_ Try.func38 (by kernel_rfl) rfl #[.slice Ao22 x4_1.length co22, .slice Ao23 y136.length co23] (by rfl) rfl rfl (by (try simp only [List.map_toArray, List.map_cons, List.map_nil]); first | done | rfl | (simp only [List.length_drop, List.length_take]; rfl)) ?_
       with_reducible refine (wire_put.calls k1 (fun k_ => some k_ = (.slice Ao22 x4_1.length co22 : Value).ownBlock) (.slice Ao22 x4_1.length co22) x4_1 _ _ y136 t139 w _ ?side1 ?side2 ?side3 ?side4 A13.out).mono ?_
       (case side1 => repeat (first | (with_reducible first | exact HB.out | apply below_alloc | apply pw_below_drewN | apply below_drew1 | refine below_set ?_ GE135.out) | exact HB.out))
       (case side2 => exact Kd.R_tight rfl HO_4.out)
       (case side3 => exact Kd.C_kept_own ((Kd.R_apart' HO138.out (Kd.R_typed HO_4.out) (by decide))) (fun k_ hk_ hs_ => (hk_.2) hs_))
       (case side4 => exact (Kd.R_reads' HO138.out).2.1)
       rintro e w24 ⟨v140, rfl, ho0, hb, hkp⟩
       refine ⟨_, rfl, ?_⟩
       have HO141 := Aside0.mk (Kd.R_mono (ok' := fun k_ => True) ho0 (fun k_ hk_ => trivial))
       replace BK135 := Aside0.mk (blk_kept (mvK_ BK135.out) hkp (fun hs_ => (fun e_ => (Kd.R_ne HO_4.out BK135.out (by decide)) e_) hs_))
       replace HO138 := Aside0.mk (Kd.R_mono (ok' := fun k_ => True) (Kd.R_keptB ((Kd.R_apart' HO138.out (Kd.R_typed HO_4.out) (by decide))) hkp (fun k_ hk_ hs_ => (hk_.2) hs_)) (fun k_ hk_ => trivial))
       replace HB := Aside0.mk (hb)
       clear HO_4
       (try clear hb)
       (try clear hkp)
       (try clear ho0)
       obtain ⟨Ao25, co25, eo25⟩ := Kd.R_slice HO141.out
       (first | subst eo25 | (injection eo25 with f1_ f2_ f3_; have f4_ := f1_.symm; have f5_ := f3_.symm; clear f1_ f2_ f3_; subst f4_; subst f5_))
       refine hK.out _ _ ⟨(blk_cell BK135.out 0).trans rfl, (blk_cell BK135.out 1).trans rfl, (blk_cell BK135.out 2).trans rfl⟩ (fun hHeld => ?_)
       clear hK K
       refine norm_ (a' := ?_) ?_ ?_
       rotate_left
       ·show Act.put _ (some 25) _ = _
        simp only [Act.put, sA_, sB_, sC_, i64_w, i32_w]
        rfl
       refine one_ (i := 7) (N := some 28) L17_8 rfl rfl (one_of HT_.out (by kernel_rfl)) (by decide) (fun K hK => ?_)
       refine goes_ Try.func39 (by kernel_rfl) rfl #[.slice Ao25 t139.length co25, .slice A134_1 ((rd_T48 l0 x16_1).f1).length c134_1, .int .i64 1] (by rfl) rfl rfl (by (try simp only [List.map_toArray, List.map_cons, List.map_nil]); first | done | rfl | (simp only [List.length_drop, List.length_take]; rfl)) ?_
       with_reducible refine (pack_List.calls _ _ t139 _ _ ((rd_T48 l0 x16_1).f1) 1 t142 t143 _ ?side1 ?side2 ?side3 ?side4 A14.out).mono ?_
       (case side1 => exact mvC_ ((Kd.R_reads' HO141.out).2.2))
       (case side2 => exact (Kd.R_reads' HO141.out).2.1)
       (case side3 => exact mvC_ ((Kd.C_below HR134_1.out HB.out)))
       (case side4 => exact HC134_1.out)
       rintro e w26 ⟨v144, rfl, ho0, hb⟩
       refine ⟨_, rfl, ?_⟩
       have HO145 := Aside0.mk (Kd.R_lower (Kd.R_new' ho0 (Kd.R_lt (mvR_ HO141.out))) (below_size (bq1_ HB.out GE135.out)))
       replace HO138 := mbR_ HO138.out hb
       replace HO141 := Aside0.mk (Kd.R_elder' (mvR_ HO141.out) (Kd.R_base ho0) hb)
       replace BK135 := mvB_ BK135.out hb
       replace HB := Aside0.mk (below_step (bq1_ HB.out GE135.out) hb)
       (try clear hb)
       (try clear hb2)
       (try clear hk)
       (try clear hi)
       (try clear ho0)
       refine hK.out _ _ ⟨(blk_cell BK135.out 0).trans rfl, (blk_cell BK135.out 1).trans rfl, (blk_cell BK135.out 2).trans rfl⟩ (fun hHeld => ?_)
       clear hK K
       refine norm_ (a' := ?_) ?_ ?_
       rotate_left
       ·show Act.put _ (some 28) _ = _
        simp only [Act.put, sA_, sB_, sC_, i64_w, i32_w]
        rfl
       refine pu_ 8 (some 20) L17_9 HT_ ?_
       refine pu_ 9 (some 29) L17_10 HT_ ?_
       refine pu_ 10 (some 30) L17_11 HT_ ?_
       refine pu_ 11 (some 4) L17_12 HT_ ?_
       refine done_ (done_of HT_.out (by kernel_rfl)) ?_
       have hcz27_0 := hc_ BK135 0
       have hcz27_1 := hc_ BK135 1
       have hcz27_2 := hc_ BK135 2
       have hfz27_0 := blk_frozen BK135.out 0
       have hfz27_1 := blk_frozen BK135.out 1
       have hfz27_2 := blk_frozen BK135.out 2
       obtain ⟨Ao28, co28, eo28⟩ := Kd.R_slice HO145.out
       subst eo28
       try go_wp2_with (first | ((with_reducible refine gate_callee (f := 39) rfl ?_); refine gL_ (some 35) Try.func39 #[.slice Ao28 t142.length co28, .slice A134_2 ((rd_T48 l0 x16_1).f2).length c134_2, .int .i64 8] ?_; (with_reducible refine (pack_List.calls _ _ t142 _ _ ((rd_T48 l0 x16_1).f2) 8 t146 t147 _ ?side1 ?side2 ?side3 ?side4 A15.out).mono ?_); (case side1 => exact mvC_ ((Kd.R_reads' HO145.out).2.2)); (case side2 => exact (Kd.R_reads' HO145.out).2.1); (case side3 => exact mvC_ ((Kd.C_below HR134_2.out HB.out))); (case side4 => exact HC134_2.out); rintro e w29 ⟨v148, rfl, ho0, hb⟩; refine ⟨_, rfl, ?_⟩; have HO149 := Aside0.mk (Kd.R_lower (Kd.R_new' (Kd.R_new' ho0 (Kd.R_lt (mvR_ HO141.out))) (Kd.R_lt (mvR_ HO145.out))) (below_size (bq1_ HB.out GE135.out))); replace HO138 := mbR_ HO138.out hb; replace HO141 := Aside0.mk (Kd.R_elder' (mvR_ HO141.out) (Kd.R_base ho0) hb); replace HO145 := Aside0.mk (Kd.R_elder' (mvR_ HO145.out) (Kd.R_base ho0) hb); replace BK135 := mvB_ BK135.out hb; replace HB := Aside0.mk (below_step (bq1_ HB.out GE135.out) hb); (try clear hb); (try clear ho0)))
       go_roundg k1
       case measure => have := HK1.out; omega
       case rel => exact ⟨(t146), (wrap64 (x16_1 + 1)), (by first | rfl | (simp; done) | (simp [*]; done)), H', ⟨by have := HK1.out; omega⟩, ⟨by (with_reducible repeat (first | apply Kd.R_alloc | apply Kd.R_drewN | apply Kd.R_drew)); exact Kd.R_mono HO149.out (fun _ hk => trivial)⟩, ⟨bq1_ HB.out GE135.out⟩⟩
      ·rw [if_neg c12] at H
       exact absurd H (by simp)
     ·rw [if_neg c11] at H
      exact absurd H (by simp)
    ·rw [if_neg c10] at H
     have c10b0 : decide (x16_1 < (l0.length : Int)) = false := decide_eq_false c10
     clear c10
     simp only [Option.some.injEq, Prod.mk.injEq] at H
     obtain ⟨rfl, rfl⟩ := H
     go_wp2
     go_ret2
     exact ⟨_, by first | rfl | (simp <;> rfl) | (simp [*] <;> rfl), mvR_ HO_4.out, bq0_ HB.out⟩
 ·replace c3 := Bool.eq_false_iff.mpr c3
  subst c3
  have H1 : (some (([] : List Int), 100)) = some (r1, r2) := by rw [if_neg (show ¬ (false = true) by decide)] at H; exact H
  clear H
  have H := H1
  clear H1
  simp only [Option.some.injEq, Prod.mk.injEq] at H
  obtain ⟨rfl, rfl⟩ := H
  go_enter Try.func17, Try.ntmps17
  go_wp2_with (first | ((with_reducible refine gate_callee (f := 30) rfl ?_); refine gL_ (some 8) Try.func30 #[.slice A0 l0.length c0] ?_; (with_reducible refine (graph_Check.calls _ _ l0 false _ ?side1 ?side2 A2.out).mono ?_); (case side1 => exact mvC_ (HR0.out)); (case side2 => exact HC0.out); rintro e w30 ⟨rfl, hb⟩; refine ⟨_, rfl, ?_⟩; replace HB := Aside0.mk (below_step (bq0_ HB.out) hb); (try clear hb)))
  go_ret2
  exact ⟨_, by first | rfl | (simp <;> rfl) | (simp [*] <;> rfl), by first | exact Kd.R_nil _ _ _ _ _ | exact Kd.N_nil _ _ _ _ _ | exact Kd.V_nil _ _ _ _ _ | exact Kd.Q_nil _ _ _ _ _ | exact Kd.S_nil _ _ _ _ _, bq0_ HB.out⟩
def pack_Put.f (l0 : List Int) (a1 a2 : Int) : Option (List Int × Int) := if l0.length + 8 < 140737488355328 then some (pkPut l0 a1 a2) else none
theorem put_nil_ok (p : Addr) (x : Value) (w : World) (hc : w.cell? p = some x) (hf : w.frozen? p = false) :
    Calls Try.prog 71 #[.pointer (some p)] w fun e w' => e = .returned (.tuple #[]) ∧ w.setCell p (.slice none 0 0) = w' := by
  go_enter Try.func71, Try.ntmps71
  go_wp2
  go_end0
  exact ⟨rfl, rfl⟩
theorem res_two (tm : Array Value) (W : World) (a b : Addr) (x y : Value) (t6 : tm[6]?.getD undef = .pointer (some a)) (t7 : tm[7]?.getD undef = .pointer (some b)) (k6 : W.cell? a = some x) (k7 : W.cell? b = some y) :
    (results Try.f40 tm).run Try.prog W = .ok (.tuple #[x, y]) W := by
  simp [results, Try.results40, go_sem, t6, t7, k6, k7]
theorem told_tail2 (w w1 : World) (tm : Array Value) (c6 : w1.cell? ⟨w.heap.size, 0, none⟩ = some (.slice none 0 0)) (f6 : w1.frozen? ⟨w.heap.size, 0, none⟩ = false)
    (c7 : w1.cell? ⟨w.heap.size + 1, 0, none⟩ = some (.int .i64 0)) (f7 : w1.frozen? ⟨w.heap.size + 1, 0, none⟩ = false) (z1 : w.heap.size + 2 ≤ w1.heap.size) (hb : Below w.heap.size w w1)
    (t6 : tm[6]?.getD undef = .pointer (some ⟨w.heap.size, 0, none⟩)) (t7 : tm[7]?.getD undef = .pointer (some ⟨w.heap.size + 1, 0, none⟩)) :
    Leaves Try.prog Try.f40 tm (fun e w' => ∃ v0_ : Value, e = .returned (.tuple #[v0_, .int .i64 40]) ∧ Kd.R (Kd.int .u8) 5 w' w.heap.size (fun _ => True) v0_ [] ∧ Below w.heap.size w w')
      [{ target := Target.fn (Fn.func 67) #[], args := #[.pointer (some ⟨w.heap.size + 1, 0, none⟩), .func (Fn.func 71) #[] #[.pointer (some ⟨w.heap.size, 0, none⟩)]] }] (.panicking [wrongE]) w1 := by
  have hlt : w.heap.size < w1.heap.size := by omega
  have hlt2 : w.heap.size + 1 < w1.heap.size := by omega
  refine leaves_cons (f := 67) (args := #[.pointer (some ⟨w.heap.size + 1, 0, none⟩), .func (Fn.func 71) #[] #[.pointer (some ⟨w.heap.size, 0, none⟩)]]) (by simp) (by simp [go_sem]) ?_
  refine (pack_told.wrong ⟨w.heap.size + 1, 0, none⟩ 71 #[.pointer (some ⟨w.heap.size, 0, none⟩)] (.int .i64 0) [] w1 (fun w2 => (w1.alloc (.cells #[] 110)).setCell ⟨w.heap.size, 0, none⟩ (.slice none 0 0) = w2) (fun W => by simp [go_sem]) ?_).mono ?_
  · refine (put_nil_ok ⟨w.heap.size, 0, none⟩ (.slice none 0 0) _ (by rw [World.cell?_alloc_lt _ _ _ hlt]; exact c6) (by rw [World.frozen?_alloc_old _ _ _ (Nat.ne_of_lt hlt)]; exact f6)).mono ?_
    rintro e w' ⟨rfl, rfl⟩
    refine ⟨rfl, rfl, ?_, ?_⟩
    · rw [World.cell?_setCell_other _ _ _ _ (by simp), World.cell?_alloc_lt _ _ _ hlt2]; exact c7
    · rw [World.frozen?_setCell, World.frozen?_alloc_old _ _ _ (Nat.ne_of_lt hlt2)]; exact f7
  · rintro e u' w' ⟨rfl, rfl, w2, rfl, rfl⟩
    have hs : settle (.panicking [wrongR]) = .returning := rfl
    simp only [hs]
    refine ⟨.tuple #[.slice none 0 0, .int .i64 40], ?_, .slice none 0 0, rfl, Kd.R_nil _ _ _ _ _, ?_⟩
    · have k6 : ((((w1.alloc (.cells #[] 110)).setCell ⟨w.heap.size, 0, none⟩ (.slice none 0 0)).setCell ⟨w.heap.size + 1, 0, none⟩ (.int .i64 40))).cell? ⟨w.heap.size, 0, none⟩ = some (.slice none 0 0) := by
        rw [World.cell?_setCell_other _ _ _ _ (by simp)]
        exact World.cell?_setCell_same _ _ _ (u := .slice none 0 0) (by rw [World.cell?_alloc_lt _ _ _ hlt]; exact c6)
      have k7 : ((((w1.alloc (.cells #[] 110)).setCell ⟨w.heap.size, 0, none⟩ (.slice none 0 0)).setCell ⟨w.heap.size + 1, 0, none⟩ (.int .i64 40))).cell? ⟨w.heap.size + 1, 0, none⟩ = some (.int .i64 40) :=
        World.cell?_setCell_same _ _ _ (u := .int .i64 0) (by rw [World.cell?_setCell_other _ _ _ _ (by simp), World.cell?_alloc_lt _ _ _ hlt2]; exact c7)
      exact res_two _ _ _ _ _ _ t6 t7 k6 k7
    · exact ((hb.alloc (by omega) _).setCell (p := ⟨w.heap.size, 0, none⟩) (Nat.le_refl _) _).setCell (p := ⟨w.heap.size + 1, 0, none⟩) (by simp) _
set_option maxHeartbeats 8000000 in
set_option maxRecDepth 100000 in
theorem pack_Put.calls (A0 : Option Addr) (c0 : Nat) (l0 : List Int) (a1 a2 : Int) (r1 : List Int) (r2 : Int) (w : World) (hr0 : Kd.C (Kd.int .u8) w A0 l0.length l0) (hc0 : l0.length ≤ c0) (h : pack_Put.f l0 a1 a2 = some (r1, r2)) :
    Calls Try.prog 40 #[.slice A0 l0.length c0, .int .i64 a1, .int .i64 a2] w fun e w' => ∃ v0_ : Value, e = .returned (.tuple #[v0_, .int .i64 r2]) ∧ Kd.R (Kd.int .u8) 5 w' w.heap.size (fun _ => True) v0_ r1 ∧ Below w.heap.size w w' := by
  unfold pack_Put.f at h
  by_cases hl : l0.length + 8 < 140737488355328
  · rw [if_pos hl] at h
    have h := Option.some.inj h
    have HL := Aside0.mk hl
    have HR0 := Aside0.mk hr0
    have HC0 := Aside0.mk hc0
    have hcf : slices_Clone_byte_byte.f l0 = some l0 := by unfold slices_Clone_byte_byte.f; rw [if_pos (by omega)]
    have HCF := Aside0.mk hcf
    clear hr0 hc0 hcf hl
    have hmf : ∀ (fn : Fn) (first cap : Array Value) (W : World), (Instr.makeFunc fn first cap).run Try.prog W = .ok (.func fn first cap) W := fun _ _ _ _ => rfl
    by_cases hm : pkMay a1 a2 = true
    · have hz : (r1, r2) = (l0 ++ pkBytes a2.toNat a1, 0) := by rw [← h]; simp [pkPut, hm]
      obtain ⟨rfl, rfl⟩ := Prod.mk.inj hz
      have HP := Aside0.mk (put_f l0 a1 a2 hm HL.out 12 (Nat.le_refl _))
      clear hm h hz
      obtain ⟨z, hz⟩ : ∃ z : List Int, z = l0 ++ pkBytes a2.toNat a1 := ⟨_, rfl⟩
      rw [← hz] at HP ⊢
      clear hz
      go_enter_defers Try.func40, Try.ntmps40
      go_wp2_with (first | (go_at_call 25; (with_reducible refine (slices_Clone_byte_byte.calls _ _ l0 l0 _ ?s1 HC0.out HCF.out).mono ?_); (case s1 => repeat (first | exact HR0.out | (with_reducible refine Kd.C_alloc ?_ _))); rintro e w1 ⟨v1, rfl, hR1, hb1⟩; have HR1 := Aside0.mk hR1; have HB1 := Aside0.mk hb1; clear hR1 hb1) | (go_at_call 70; (with_reducible refine (pack_put.calls 12 (fun _ => True) v1 l0 a1 a2 z _ _ HB1.out HR1.out HP.out).mono ?_); rintro e w2 ⟨v2, rfl, hR2, hb2, hk2⟩; clear hk2; have c6 : w2.cell? ⟨w.heap.size, 0, none⟩ = some (.slice none 0 0) := (by rw [hb2.cell (by simp; omega)]; exact tc_a _ _ _ _ _); have f6 : w2.frozen? ⟨w.heap.size, 0, none⟩ = false := (by rw [hb2.frozen (by simp; omega)]; exact tf_a _ _ _ _ _); have c7 : w2.cell? ⟨w.heap.size + 1, 0, none⟩ = some (.int .i64 0) := (by rw [hb2.cell (by simp)]; exact tc_b _ _ _ _ _); have f7 : w2.frozen? ⟨w.heap.size + 1, 0, none⟩ = false := (by rw [hb2.frozen (by simp)]; exact tf_b _ _ _ _ _); obtain ⟨Ao2, co2, eo2⟩ := Kd.R_slice hR2; subst eo2; have HR2 := Aside0.mk hR2; have HB2 := Aside0.mk hb2; clear hR2 hb2))
      simp only [bodyPostD]
      refine leaves_cons (f := 67) (args := #[.pointer (some ⟨w.heap.size + 1, 0, none⟩), .func (Fn.func 71) #[] #[.pointer (some ⟨w.heap.size, 0, none⟩)]]) (by simp) (by simp [go_sem]) ?_
      refine (pack_told.idle _ _ _).mono ?_
      rintro e u' w' ⟨rfl, rfl, rfl⟩
      have hs : settle .returning = .returning := rfl
      simp only [hs]
      refine ⟨.tuple #[.slice Ao2 z.length co2, .int .i64 0], ?_, _, rfl, ?_, ?_⟩
      · refine res_two _ _ _ _ _ _ rfl rfl ?_ (World.cell?_setCell_same _ _ _ (u := .int .i64 0) (by rw [World.cell?_setCell_other _ _ _ _ (by simp)]; exact c7))
        rw [World.cell?_setCell_other _ _ _ _ (by simp)]
        exact World.cell?_setCell_same _ _ _ c6
      · have r1 := Kd.R_bound HR2.out
        exact Kd.R_mono (Kd.R_lower (Kd.R_far (Kd.R_far r1 (fun k hk => by have := hk.2.1; simp at this; simp; omega) _) (fun k hk => by have := hk.2.1; simp at this; simp; omega) _) (by simp; omega)) (fun _ _ => trivial)
      · have hb : Below w.heap.size w w2 := (below_alloc (below_alloc (Below.refl _ _) _) _).trans (HB2.out.mono (by simp; omega))
        exact (hb.setCell (p := ⟨w.heap.size, 0, none⟩) (Nat.le_refl _) _).setCell (p := ⟨w.heap.size + 1, 0, none⟩) (by simp) _
    · have hm' : pkMay a1 a2 = false := by simpa using hm
      have hz : (r1, r2) = ([], 40) := by rw [← h]; simp [pkPut, hm']
      obtain ⟨rfl, rfl⟩ := Prod.mk.inj hz
      have HM := Aside0.mk hm'
      clear hm hm' h hz
      go_enter_defers Try.func40, Try.ntmps40
      go_wp2_with (first | (go_at_call 25; (with_reducible refine (slices_Clone_byte_byte.calls _ _ l0 l0 _ ?s1 HC0.out HCF.out).mono ?_); (case s1 => repeat (first | exact HR0.out | (with_reducible refine Kd.C_alloc ?_ _))); rintro e w1 ⟨v1, rfl, hR1, hb1⟩; have HR1 := Aside0.mk hR1; have HB1 := Aside0.mk hb1; clear hR1 hb1) | (go_at_call 70; (with_reducible refine (pack_put.no _ a1 a2 HM.out _).mono ?_); rintro e w2 ⟨rfl, rfl⟩))
      have hb1 := HB1.out
      have c6 : w1.cell? ⟨w.heap.size, 0, none⟩ = some (.slice none 0 0) := by rw [hb1.cell (by simp; omega)]; exact tc_a _ _ _ _ _
      have f6 : w1.frozen? ⟨w.heap.size, 0, none⟩ = false := by rw [hb1.frozen (by simp; omega)]; exact tf_a _ _ _ _ _
      have c7 : w1.cell? ⟨w.heap.size + 1, 0, none⟩ = some (.int .i64 0) := by rw [hb1.cell (by simp)]; exact tc_b _ _ _ _ _
      have f7 : w1.frozen? ⟨w.heap.size + 1, 0, none⟩ = false := by rw [hb1.frozen (by simp)]; exact tf_b _ _ _ _ _
      have z1 : w.heap.size + 2 ≤ w1.heap.size := by have := hb1.size; simp at this; omega
      have hb : Below w.heap.size w w1 := (below_alloc (below_alloc (Below.refl _ _) _) _).trans (hb1.mono (by simp; omega))
      simp only [bodyPostD]
      exact told_tail2 w w1 _ c6 f6 c7 f7 z1 hb rfl rfl
  · rw [if_neg hl] at h; cases h
def image_Put.l0 : Nat → List Int → List Int → Int → Int → Option (List Int × Int)
 | 0, _, _, _, _ => none
 | k + 1, x6, x21, x22, x23 => if x23 < x22 then (if 0 ≤ x23 then (if x23 < (x21.length : Int) then ((pack_Put.f x6 (rd x21 x23) 8).bind fun bt157 => (image_Put.l0 k bt157.1 x21 x22 (wrap64 (x23 + 1)))) else (none)) else (none)) else (some (x6, 0))
def image_Put.f (k : Nat) (l0 : List Int) (l1_0 : List Int) (l1_1 : List Int) : Option (List Int × Int) := (tensor_Check.f k l1_0 l1_1).bind fun t151 => (if t151 = true then ((pack_List.f l0 l1_0 1).bind fun bt152 => (image_Put.l0 k bt152.1 l1_1 (l1_1.length : Int) 0)) else (some (([] : List Int), 30)))
theorem image_Put.mono_l : ∀ k, (∀ y0 y1 y2 y3, LeO (image_Put.l0 k y0 y1 y2 y3) (image_Put.l0 (k + 1) y0 y1 y2 y3))
 | 0 => fun _ _ _ _ r h => by simp [image_Put.l0] at h
 | k + 1 => by
  have ih0 := image_Put.mono_l k
  ·intro y0 y1 y2 y3
   unfold image_Put.l0
   repeat' first
    | (with_reducible first | exact ih0 _ _ _ _ | exact tensor_Check.mono _ _ _ | exact LeO.refl _ | exact LeO.none _ | refine LeO.ite ?_ ?_ | refine LeO.bind ?_ (fun _ => ?_))
    | first | exact ih0 _ _ _ _ | exact tensor_Check.mono _ _ _ | exact LeO.none _ | refine LeO.ite ?_ ?_ | refine LeO.bind ?_ (fun _ => ?_)
theorem image_Put.mono : ∀ a0 a1 a2 k, LeO (image_Put.f k a0 a1 a2) (image_Put.f (k + 1) a0 a1 a2) := by
 intro a0 a1 a2 k
 have ih0 := image_Put.mono_l k
 unfold image_Put.f
 repeat' first
  | (with_reducible first | exact ih0 _ _ _ _ | exact tensor_Check.mono _ _ _ | exact LeO.refl _ | exact LeO.none _ | refine LeO.ite ?_ ?_ | refine LeO.bind ?_ (fun _ => ?_))
  | first | exact ih0 _ _ _ _ | exact tensor_Check.mono _ _ _ | exact LeO.none _ | refine LeO.ite ?_ ?_ | refine LeO.bind ?_ (fun _ => ?_)
set_option maxHeartbeats 8000000 in
set_option maxRecDepth 100000 in
theorem image_Put.calls (k : Nat) (A0 : Option Addr) (c0 : Nat) (l0 : List Int) (A1_0 : Option Addr) (c1_0 : Nat) (l1_0 : List Int) (A1_1 : Option Addr) (c1_1 : Nat) (l1_1 : List Int) (r1 : List Int) (r2 : Int) (w : World) (hr0 : Kd.C (Kd.int .u8) w A0 l0.length l0) (hc0 : l0.length ≤ c0) (hr1_0 : Kd.C (Kd.int .i64) w A1_0 l1_0.length l1_0) (hc1_0 : l1_0.length ≤ c1_0) (hr1_1 : Kd.C (Kd.int .i64) w A1_1 l1_1.length l1_1) (hc1_1 : l1_1.length ≤ c1_1) (h : image_Put.f k l0 l1_0 l1_1 = some (r1, r2)) :
  Calls Try.prog 18 #[.slice A0 l0.length c0, .agg #[.slice A1_0 l1_0.length c1_0, .slice A1_1 l1_1.length c1_1]] w fun e w' => ∃ v0_ : Value, e = .returned (.tuple #[v0_, .int .i64 r2]) ∧ Kd.R (Kd.int .u8) 5 w' w.heap.size (fun _ => True) v0_ r1 ∧ Below w.heap.size w w' := by
 have hu26 := Try.underlying26
 have HR0 := Aside0.mk hr0
 have HC0 := Aside0.mk hc0
 clear hr0 hc0
 have HR1_0 := Aside0.mk hr1_0
 have HC1_0 := Aside0.mk hc1_0
 clear hr1_0 hc1_0
 have HR1_1 := Aside0.mk hr1_1
 have HC1_1 := Aside0.mk hc1_1
 clear hr1_1 hc1_1
 have HB := Aside0.mk (Below.refl w.heap.size w)
 have H : ((tensor_Check.f k l1_0 l1_1).bind fun t151 => (if t151 = true then ((pack_List.f l0 l1_0 1).bind fun bt152 => (image_Put.l0 k bt152.1 l1_1 (l1_1.length : Int) 0)) else (some (([] : List Int), 30)))) = some (r1, r2) := h
 clear h
 replace H := Option.bind_eq_some_iff.mp H
 obtain ⟨t151, A30, H⟩ := H
 replace H : (if t151 = true then ((pack_List.f l0 l1_0 1).bind fun bt152 => (image_Put.l0 k bt152.1 l1_1 (l1_1.length : Int) 0)) else (some (([] : List Int), 30))) = some (r1, r2) := H
 have A3 := Aside0.mk A30
 clear A30
 by_cases c4 : t151 = true
 ·subst c4
  have H1 : ((pack_List.f l0 l1_0 1).bind fun bt152 => (image_Put.l0 k bt152.1 l1_1 (l1_1.length : Int) 0)) = some (r1, r2) := by rw [if_pos rfl] at H; exact H
  clear H
  have H := H1
  clear H1
  replace H := Option.bind_eq_some_iff.mp H
  obtain ⟨⟨t152, t153⟩, A50, H⟩ := H
  replace H : (image_Put.l0 k t152 l1_1 (l1_1.length : Int) 0) = some (r1, r2) := H
  have A5 := Aside0.mk A50
  clear A50
  have H' := Aside0.mk H
  clear H
  go_enter Try.func18, Try.ntmps18
  go_wp2_with (first | ((with_reducible refine gate_dst (N := 3) rfl ?_); refine box_event ?hg (N := 3) ?hd (cs := #[.slice A1_0 l1_0.length c1_0, .slice A1_1 l1_1.length c1_1]) (t := 26) ?hr ?_; (case hd => rfl); (case hg => rfl); (case hr => first | (go_simp; done) | (go_simp; rfl)); intro gb150 hg w6 hbox hb; have BK150 := Aside0.mk (hbox); have GW150 := Aside0.mk ((by rw [hg]; exact (below_size (bq0_ HB.out)) : w.heap.size ≤ gb150)); have GE150 := Aside0.mk ((by rw [hg]; exact (below_size (bq0_ HB.out)) : w.heap.size ≤ gb150)); replace HB := Aside0.mk (below_step (bq0_ HB.out) hb); clear hb hbox hg; have hcz7_0 := cz0_ BK150.out; have hcz7_1 := cz1_ BK150.out; have hfz7_0 := blk_frozen BK150.out 0; have hfz7_1 := blk_frozen BK150.out 1) | ((with_reducible refine gate_callee (f := 32) rfl ?_); refine gL_ (some 11) Try.func32 #[.agg #[.slice A1_0 l1_0.length c1_0, .slice A1_1 l1_1.length c1_1]] ?_; (with_reducible refine (tensor_Check.calls k _ _ l1_0 _ _ l1_1 true _ ?side1 ?side2 ?side3 ?side4 A3.out).mono ?_); (case side1 => exact mvC_ ((Kd.C_below HR1_0.out HB.out))); (case side2 => exact HC1_0.out); (case side3 => exact mvC_ ((Kd.C_below HR1_1.out HB.out))); (case side4 => exact HC1_1.out); rintro e w8 ⟨rfl, hb⟩; refine ⟨_, rfl, ?_⟩; replace BK150 := mvB_ BK150.out hb; replace HB := Aside0.mk (below_step (bq1_ HB.out GE150.out) hb); (try clear hb); have hcz9_0 := cz0_ BK150.out; have hcz9_1 := cz1_ BK150.out; have hfz9_0 := blk_frozen BK150.out 0; have hfz9_1 := blk_frozen BK150.out 1) | ((with_reducible refine gate_callee (f := 39) rfl ?_); refine gL_ (some 17) Try.func39 #[.slice A0 l0.length c0, .slice A1_0 l1_0.length c1_0, .int .i64 1] ?_; (with_reducible refine (pack_List.calls _ _ l0 _ _ l1_0 1 t152 t153 _ ?side1 ?side2 ?side3 ?side4 A5.out).mono ?_); (case side1 => exact mvC_ ((Kd.C_below HR0.out HB.out))); (case side2 => exact HC0.out); (case side3 => exact mvC_ ((Kd.C_below HR1_0.out HB.out))); (case side4 => exact HC1_0.out); rintro e w10 ⟨v154, rfl, ho0, hb⟩; refine ⟨_, rfl, ?_⟩; have HO155 := Aside0.mk (Kd.R_lower ho0 (below_size (bq1_ HB.out GE150.out))); replace BK150 := mvB_ BK150.out hb; replace HB := Aside0.mk (below_step (bq1_ HB.out GE150.out) hb); (try clear hb); (try clear ho0); have hcz11_0 := cz0_ BK150.out; have hcz11_1 := cz1_ BK150.out; have hfz11_0 := blk_frozen BK150.out 0; have hfz11_1 := blk_frozen BK150.out 1))
  go_loopg [6, 23] k (fun kq v6 v23 w' => ∃ (x6_1 : List Int) (x23_1 : Int), v23 = .int .i64 x23_1 ∧ Aside0 (image_Put.l0 kq x6_1 l1_1 (l1_1.length : Int) x23_1 = some (r1, r2)) ∧ Aside0 (kq ≤ k) ∧ Aside0 (Kd.R (Kd.int .u8) 5 w' w.heap.size (fun _ => True) v6 x6_1) ∧ Aside0 (w'.heap[gb150]? = some (.cells #[(.slice A1_0 l1_0.length c1_0), (.slice A1_1 l1_1.length c1_1)] 26 (0, 0))) ∧ Aside0 (Below w.heap.size w w'))
  case atStart => exact ⟨(t152), (0), (by first | rfl | (simp; done) | (simp [*]; done)), H', ⟨Nat.le_refl _⟩, ⟨mvR_ HO155.out⟩, ⟨by (with_reducible repeat (first | refine blk_drewN ?_ _ | refine blk_drew ?_ | refine blk_alloc ?_ _)); exact BK150.out⟩, ⟨bq1_ HB.out GE150.out⟩⟩
  case round =>
   clear H'
   try clear c1
   try clear p2
   try clear c3
   try clear c4
   try clear hcz11_0
   try clear hcz11_1
   try clear hcz7_0
   try clear hcz7_1
   try clear hcz9_0
   try clear hcz9_1
   try clear hfz11_0
   try clear hfz11_1
   try clear hfz7_0
   try clear hfz7_1
   try clear hfz9_0
   try clear hfz9_1
   obtain ⟨x6_1, x23_1, rfl, HA, HK1, HO_6, BK150, HB⟩ := hrel
   cases gk with
   | zero => exact absurd HA.out (by simp [image_Put.l0])
   | succ k1 =>
    have H := HA.out
    clear HA
    simp only [image_Put.l0] at H
    by_cases c12 : x23_1 < (l1_1.length : Int)
    ·rw [if_pos c12] at H
     have c12b0 : decide (x23_1 < (l1_1.length : Int)) = true := decide_eq_true c12
     clear c12
     by_cases c13 : 0 ≤ x23_1
     ·rw [if_pos c13] at H
      have c13b0 : decide (0 ≤ x23_1) = true := decide_eq_true c13
      clear c13
      by_cases c14 : x23_1 < (l1_1.length : Int)
      ·rw [if_pos c14] at H
       have c14b0 : decide (x23_1 < (l1_1.length : Int)) = true := decide_eq_true c14
       clear c14
       replace H := Option.bind_eq_some_iff.mp H
       obtain ⟨⟨t157, t158⟩, A150, H⟩ := H
       replace H : (image_Put.l0 k1 t157 l1_1 (l1_1.length : Int) (wrap64 (x23_1 + 1))) = some (r1, r2) := H
       have A15 := Aside0.mk A150
       clear A150
       have H' := Aside0.mk H
       clear H
       have p156 : 0 ≤ (x23_1 : Int) := od_
       have q156 : x23_1 < (l1_1.length : Int) := od_
       obtain ⟨ad156, e156, hx156_0⟩ := Kd.at_int HR1_1.out x23_1 p156 q156
       cases e156
       replace hx156_0 := hb_ HB hx156_0
       replace p156 := eq_true p156
       replace q156 := eq_true q156
       obtain ⟨Ao16, co16, eo16⟩ := Kd.R_slice HO_6.out
       subst eo16
       go_wp2_with (first | ((with_reducible refine gate_callee (f := 40) rfl ?_); refine gL_ (some 30) Try.func40 #[.slice Ao16 x6_1.length co16, .int .i64 (rd l1_1 x23_1), .int .i64 8] ?_; (with_reducible refine (pack_Put.calls _ _ x6_1 (rd l1_1 x23_1) 8 t157 t158 _ ?side1 ?side2 A15.out).mono ?_); (case side1 => exact mvC_ ((Kd.R_reads' HO_6.out).2.2)); (case side2 => exact (Kd.R_reads' HO_6.out).2.1); rintro e w17 ⟨v159, rfl, ho0, hb⟩; refine ⟨_, rfl, ?_⟩; have HO160 := Aside0.mk (Kd.R_lower (Kd.R_new' ho0 (Kd.R_lt (mvR_ HO_6.out))) (below_size (bq1_ HB.out GE150.out))); replace HO_6 := Aside0.mk (Kd.R_elder' (mvR_ HO_6.out) (Kd.R_base ho0) hb); replace BK150 := mvB_ BK150.out hb; replace HB := Aside0.mk (below_step (bq1_ HB.out GE150.out) hb); (try clear hb); (try clear ho0)))
       go_roundg k1
       case measure => have := HK1.out; omega
       case rel => exact ⟨(t157), (wrap64 (x23_1 + 1)), (by first | rfl | (simp; done) | (simp [*]; done)), H', ⟨by have := HK1.out; omega⟩, ⟨by (with_reducible repeat (first | apply Kd.R_alloc | apply Kd.R_drewN | apply Kd.R_drew)); exact Kd.R_mono HO160.out (fun _ hk => trivial)⟩, ⟨by (with_reducible repeat (first | refine blk_drewN ?_ _ | refine blk_drew ?_ | refine blk_alloc ?_ _)); exact BK150.out⟩, ⟨bq1_ HB.out GE150.out⟩⟩
      ·rw [if_neg c14] at H
       exact absurd H (by simp)
     ·rw [if_neg c13] at H
      exact absurd H (by simp)
    ·rw [if_neg c12] at H
     have c12b0 : decide (x23_1 < (l1_1.length : Int)) = false := decide_eq_false c12
     clear c12
     simp only [Option.some.injEq, Prod.mk.injEq] at H
     obtain ⟨rfl, rfl⟩ := H
     go_wp2
     go_ret2
     exact ⟨_, by first | rfl | (simp <;> rfl) | (simp [*] <;> rfl), mvR_ HO_6.out, bq1_ HB.out GE150.out⟩
 ·replace c4 := Bool.eq_false_iff.mpr c4
  subst c4
  have H1 : (some (([] : List Int), 30)) = some (r1, r2) := by rw [if_neg (show ¬ (false = true) by decide)] at H; exact H
  clear H
  have H := H1
  clear H1
  simp only [Option.some.injEq, Prod.mk.injEq] at H
  obtain ⟨rfl, rfl⟩ := H
  go_enter Try.func18, Try.ntmps18
  go_wp2_with (first | ((with_reducible refine gate_dst (N := 3) rfl ?_); refine box_event ?hg (N := 3) ?hd (cs := #[.slice A1_0 l1_0.length c1_0, .slice A1_1 l1_1.length c1_1]) (t := 26) ?hr ?_; (case hd => rfl); (case hg => rfl); (case hr => first | (go_simp; done) | (go_simp; rfl)); intro gb150 hg w18 hbox hb; have BK150 := Aside0.mk (hbox); have GW150 := Aside0.mk ((by rw [hg]; exact (below_size (bq0_ HB.out)) : w.heap.size ≤ gb150)); have GE150 := Aside0.mk ((by rw [hg]; exact (below_size (bq0_ HB.out)) : w.heap.size ≤ gb150)); replace HB := Aside0.mk (below_step (bq0_ HB.out) hb); clear hb hbox hg; have hcz19_0 := cz0_ BK150.out; have hcz19_1 := cz1_ BK150.out; have hfz19_0 := blk_frozen BK150.out 0; have hfz19_1 := blk_frozen BK150.out 1) | ((with_reducible refine gate_callee (f := 32) rfl ?_); refine gL_ (some 11) Try.func32 #[.agg #[.slice A1_0 l1_0.length c1_0, .slice A1_1 l1_1.length c1_1]] ?_; (with_reducible refine (tensor_Check.calls k _ _ l1_0 _ _ l1_1 false _ ?side1 ?side2 ?side3 ?side4 A3.out).mono ?_); (case side1 => exact mvC_ ((Kd.C_below HR1_0.out HB.out))); (case side2 => exact HC1_0.out); (case side3 => exact mvC_ ((Kd.C_below HR1_1.out HB.out))); (case side4 => exact HC1_1.out); rintro e w20 ⟨rfl, hb⟩; refine ⟨_, rfl, ?_⟩; replace BK150 := mvB_ BK150.out hb; replace HB := Aside0.mk (below_step (bq1_ HB.out GE150.out) hb); (try clear hb)))
  go_ret2
  exact ⟨_, by first | rfl | (simp <;> rfl) | (simp [*] <;> rfl), by first | exact Kd.R_nil _ _ _ _ _ | exact Kd.N_nil _ _ _ _ _ | exact Kd.V_nil _ _ _ _ _ | exact Kd.Q_nil _ _ _ _ _ | exact Kd.S_nil _ _ _ _ _, bq1_ HB.out GE150.out⟩
set_option maxHeartbeats 8000000 in
set_option maxRecDepth 100000 in
theorem api_Cmd_41.by_ (q : S30 → Bool) (g : Nat) (lb : Array Value) (A0 : Option Addr) (c0 : Nat) (l0 : List (S30)) (w : World) (hr0 : Kd.C k30 w A0 l0.length l0)
    (eg : ∀ args W, (callFunc g args).run Try.prog W = .ok (.enter g args) W)
    (hp : ∀ (W : World) (x : S30) (A2_ : Option Addr) (c2_ : Nat) (A3_ : Option Addr) (c3_ : Nat) (A4_ : Option Addr) (c4_ : Nat), x ∈ l0 → Below w.heap.size w W → x.f2.length ≤ c2_ → Kd.C k48 W A2_ x.f2.length x.f2 → x.f3.f0.length ≤ c3_ → Kd.C (Kd.int .i64) W A3_ x.f3.f0.length x.f3.f0 → x.f3.f1.length ≤ c4_ → Kd.C (Kd.int .i64) W A4_ x.f3.f1.length x.f3.f1 → Calls Try.prog g (#[.agg #[.int .i64 x.f0, .int .i64 x.f1, .slice A2_ x.f2.length c2_, .slice A3_ x.f3.f0.length c3_, .slice A4_ x.f3.f1.length c4_, .int .i64 x.f4.f0, .int .i64 x.f4.f1, .int .i64 x.f4.f2, .int .i64 x.f4.f3, .int .i64 x.f5, .int .i64 x.f6]] ++ lb) W fun e w' => e = .returned (.bool (q x)) ∧ Below W.heap.size W w') :
    Calls Try.prog 41 #[.slice A0 l0.length c0, .func (.func g) #[] lb] w fun e w' => e = .returned (.int .i64 (idxF q 0 l0)) ∧ Below w.heap.size w w' := by
  have HR := Aside0.mk hr0
  have hbig := hr0.2.1
  clear hr0
  go_enter Try.func41, Try.ntmps41
  go_wp2
  go_loopg [5, 8] l0.length (fun gg _ s8 wr => ∃ kk : Nat, kk ≤ l0.length ∧ l0.length - kk ≤ gg ∧ s8 = .int .i64 kk ∧ Aside0 (Below w.heap.size w wr) ∧ Aside0 (∀ (j : Nat) (y : S30), j < kk → l0[j]? = some y → q y = false))
  case atStart => exact ⟨0, Nat.zero_le _, by omega, rfl, ⟨Below.refl _ w⟩, ⟨fun j y hj => absurd hj (Nat.not_lt_zero _)⟩⟩
  case round =>
    obtain ⟨kk, hkk, hg, rfl, BW, AA⟩ := hrel
    by_cases hlt : kk < l0.length
    · have hltz : (kk : Int) < (l0.length : Int) := by omega
      obtain ⟨ad, A2_, c2_, A3_, c3_, A4_, c4_, rfl, hx0, hx1, hx2, hx3, hx4, hx5, hx6, hx7, hx8, hx9, hx10, hl2, hi2, hl3, hi3, hl4, hi4⟩ := at_T30 (Kd.C_below HR.out BW.out) (kk : Int) (by omega) hltz
      have hE := show l0[kk]? = some (rd_T30 l0 (kk : Int)) by simp [rd_T30, hlt]
      have hcall := hp wr (rd_T30 l0 (kk : Int)) A2_ c2_ A3_ c3_ A4_ c4_ (List.mem_of_getElem? hE) BW.out hl2 hi2 hl3 hi3 hl4 hi4
      have HE := Aside0.mk hE
      clear hp hE hl2 hi2 hl3 hi3 hl4 hi4
      (try simp only [Int.toNat_natCast] at hx0 hx1 hx2 hx3 hx4 hx5 hx6 hx7 hx8 hx9 hx10)
      generalize rd_T30 l0 (kk : Int) = y at hx0 hx1 hx2 hx3 hx4 hx5 hx6 hx7 hx8 hx9 hx10 hcall HE
      cases hq : q y with
      | true =>
        have HQ := Aside0.mk hq
        rw [hq] at hcall
        have HCALL := Aside0.mk hcall
        clear hq hcall
        go_wp2_with fail
        refine HCALL.out.mono ?_
        rintro e w' ⟨rfl, hb⟩
        have hb' := Aside0.mk hb
        clear hb HCALL
        go_wp2
        go_ret
        refine ⟨?_, below_step BW.out hb'.out⟩
        rw [idxF_hit q l0 0 kk y HE.out HQ.out AA.out, Nat.zero_add]
        rfl
      | false =>
        have HQ := Aside0.mk hq
        rw [hq] at hcall
        have HCALL := Aside0.mk hcall
        clear hq hcall
        go_wp2_with fail
        refine HCALL.out.mono ?_
        rintro e w' ⟨rfl, hb⟩
        have hb' := Aside0.mk hb
        clear hb HCALL
        go_wp2
        go_roundg (l0.length - (kk + 1))
        case measure => omega
        case rel =>
          refine ⟨kk + 1, by omega, by omega, by go_num, ⟨below_step BW.out hb'.out⟩, ⟨fun j z hj hz => ?_⟩⟩
          by_cases e : j = kk
          · subst e
            rw [HE.out] at hz
            cases hz
            exact HQ.out
          · exact AA.out j z (by omega) hz
    · have hltz : ¬ (kk : Int) < (l0.length : Int) := by omega
      have hkl : kk = l0.length := by omega
      have HK := Aside0.mk hkl
      clear hkl
      go_wp2
      go_ret
      refine ⟨?_, BW.out⟩
      rw [idxF_miss q l0 0 (fun j y hy => AA.out j y (by have := (List.getElem?_eq_some_iff.1 hy).1; have := HK.out; omega) hy)]
      rfl
set_option maxHeartbeats 8000000 in
set_option maxRecDepth 100000 in
theorem api_Cmd_21.by_ (q : S30 → Bool) (g : Nat) (lb : Array Value) (A0 : Option Addr) (c0 : Nat) (l0 : List (S30)) (w : World) (hr0 : Kd.C k30 w A0 l0.length l0)
    (eg : ∀ args W, (callFunc g args).run Try.prog W = .ok (.enter g args) W)
    (hp : ∀ (W : World) (x : S30) (A2_ : Option Addr) (c2_ : Nat) (A3_ : Option Addr) (c3_ : Nat) (A4_ : Option Addr) (c4_ : Nat), x ∈ l0 → Below w.heap.size w W → x.f2.length ≤ c2_ → Kd.C k48 W A2_ x.f2.length x.f2 → x.f3.f0.length ≤ c3_ → Kd.C (Kd.int .i64) W A3_ x.f3.f0.length x.f3.f0 → x.f3.f1.length ≤ c4_ → Kd.C (Kd.int .i64) W A4_ x.f3.f1.length x.f3.f1 → Calls Try.prog g (#[.agg #[.int .i64 x.f0, .int .i64 x.f1, .slice A2_ x.f2.length c2_, .slice A3_ x.f3.f0.length c3_, .slice A4_ x.f3.f1.length c4_, .int .i64 x.f4.f0, .int .i64 x.f4.f1, .int .i64 x.f4.f2, .int .i64 x.f4.f3, .int .i64 x.f5, .int .i64 x.f6]] ++ lb) W fun e w' => e = .returned (.bool (q x)) ∧ Below W.heap.size W w') :
    Calls Try.prog 21 #[.slice A0 l0.length c0, .func (.func g) #[] lb] w fun e w' => e = .returned (.bool (l0.any q)) ∧ Below w.heap.size w w' := by
  have HR := Aside0.mk hr0
  have HP := Aside0.mk hp
  have HA := Aside0.mk (idxF_any q l0 0)
  clear hr0 hp
  go_enter Try.func21, Try.ntmps21
  go_wp2_with (go_at_call 41; (with_reducible refine (api_Cmd_41.by_ q g lb A0 c0 l0 _ HR.out eg HP.out).mono ?_); rintro e w' ⟨rfl, hb⟩; have HB := Aside0.mk hb; clear hb)
  go_ret
  exact ⟨by rw [← HA.out]; rfl, HB.out⟩
end Go.Proofs.Ytjcgadfmhfhbgaa.A
