/- Lean functions that answer as the Go functions do, and the proofs that they do; no conditions. Written by this session's own driver: a scratch copy of the kit's print with the session's additions (wip/xprint). -/
import Derived.Test.YtjcgadfmhfhbgaaAx0
import Derived.Test.YtjcgadfmhfhbgaaAx2
import Derived.Test.YtjcgadfmhfhbgaaAx3
import Derived.Test.YtjcgadfmhfhbgaaAx8
namespace Go.Proofs.Ytjcgadfmhfhbgaa.A
open Go.RowKit Go.Proofs.YtjcgadfmhfhbgaaW.PrintWords Go.Proofs.YtjcgadfmhfhbgaaW.PrintLast Go.Proofs.YtjcgadfmhfhbgaaW.PrintMore
attribute [local go_sem] max2_int min2_int max_two min_two max_three min_three max_four min_four
set_option linter.unusedVariables false
set_option linter.unusedSimpArgs false
def L76_0 : Array Bool := #[false, false, false, false, false, false, false, false, false, false, false, false]
def L76_1 : Array Bool := #[true, false, false, false, false, false, false, false, false, false, false, false]
def L76_2 : Array Bool := #[true, false, true, false, false, false, false, false, false, false, false, false]
def L76_3 : Array Bool := #[true, false, true, true, false, false, false, false, false, false, false, false]
def L76_4 : Array Bool := #[true, true, true, true, false, false, false, false, false, false, false, false]
def L76_5 : Array Bool := #[true, true, true, true, true, false, false, false, false, false, false, false]
def L76_6 : Array Bool := #[true, true, true, true, true, true, false, false, false, false, false, false]
def L76_7 : Array Bool := #[true, true, true, true, true, true, true, false, false, false, false, false]
def L76_8 : Array Bool := #[true, true, true, true, true, true, true, true, false, false, false, false]
def L76_9 : Array Bool := #[true, true, true, true, true, true, true, true, true, false, false, false]
def L76_10 : Array Bool := #[true, true, true, true, true, true, true, true, true, true, false, false]
def L76_11 : Array Bool := #[true, true, true, true, true, true, true, true, true, true, true, false]
def L76_12 : Array Bool := #[true, true, true, true, true, true, true, true, true, true, true, true]
mutual
def image_Take.j0 : Nat → List Int → List Int → Bool → Option (List Int × List Int × List Int × Int)
 | 0, _, _, _ => none
 | k + 1, x5, x6, x30 => if x30 = true then (some (([] : List Int), ([] : List Int), ([] : List Int), 50)) else ((shape_Size.f k x5).bind fun t176 => (if 0 ≤ t176 then (if (t176 : Int).toNat ≤ 35184372088832 then ((some (List.replicate (t176 : Int).toNat 0 : List Int)).bind fun y177 => (image_Take.l0 k x6 (y177.length : Int) 0 x5 y177)) else (none)) else (none)))
def image_Take.l0 : Nat → List Int → Int → Int → List Int → List Int → Option (List Int × List Int × List Int × Int)
 | 0, _, _, _, _, _ => none
 | k + 1, x6, x39, x40, x181000, x181001 => if x40 < x39 then ((pack_Take.f x6 8).bind fun bt181 => (if 0 ≤ x40 then (if x40 < (x181001.length : Int) then (image_Take.l0 k bt181.2.1 x39 (wrap64 (x40 + 1)) x181000 (x181001.set (x40 : Int).toNat bt181.1)) else (none)) else (none))) else (some (x181000, x181001, x6, 0))
end
def image_Take.f (k : Nat) (l0 : List Int) : Option (List Int × List Int × List Int × Int) := (pack_TakeList.f l0 1).bind fun bt167 => (if bt167.2.2 = 0 then ((shape_Check.f k bt167.1).bind fun t174 => (if t174 = true then ((shape_Size.f k bt167.1).bind fun t175 => (image_Take.j0 k bt167.1 bt167.2.1 (decide ((bt167.2.1.length : Int) < (wrap64 (8 * t175)))))) else (image_Take.j0 k bt167.1 bt167.2.1 true))) else (image_Take.j0 k bt167.1 bt167.2.1 true))
theorem image_Take.mono_l : ∀ k, (∀ y0 y1 y2, LeO (image_Take.j0 k y0 y1 y2) (image_Take.j0 (k + 1) y0 y1 y2)) ∧ (∀ y0 y1 y2 y3 y4, LeO (image_Take.l0 k y0 y1 y2 y3 y4) (image_Take.l0 (k + 1) y0 y1 y2 y3 y4))
 | 0 => ⟨fun _ _ _ r h => by simp [image_Take.j0] at h, fun _ _ _ _ _ r h => by simp [image_Take.l0] at h⟩
 | k + 1 => by
  obtain ⟨ih0, ih1⟩ := image_Take.mono_l k
  refine ⟨?_, ?_⟩
  ·intro y0 y1 y2
   unfold image_Take.j0
   repeat' first
    | (with_reducible first | exact ih0 _ _ _ | exact ih1 _ _ _ _ _ | exact shape_Check.mono _ _ | exact shape_Size.mono _ _ | exact LeO.refl _ | exact LeO.none _ | refine LeO.ite ?_ ?_ | refine LeO.bind ?_ (fun _ => ?_))
    | first | exact ih0 _ _ _ | exact ih1 _ _ _ _ _ | exact shape_Check.mono _ _ | exact shape_Size.mono _ _ | exact LeO.none _ | refine LeO.ite ?_ ?_ | refine LeO.bind ?_ (fun _ => ?_)
  ·intro y0 y1 y2 y3 y4
   unfold image_Take.l0
   repeat' first
    | (with_reducible first | exact ih0 _ _ _ | exact ih1 _ _ _ _ _ | exact shape_Check.mono _ _ | exact shape_Size.mono _ _ | exact LeO.refl _ | exact LeO.none _ | refine LeO.ite ?_ ?_ | refine LeO.bind ?_ (fun _ => ?_))
    | first | exact ih0 _ _ _ | exact ih1 _ _ _ _ _ | exact shape_Check.mono _ _ | exact shape_Size.mono _ _ | exact LeO.none _ | refine LeO.ite ?_ ?_ | refine LeO.bind ?_ (fun _ => ?_)
theorem image_Take.mono : ∀ a0 k, LeO (image_Take.f k a0) (image_Take.f (k + 1) a0) := by
 intro a0 k
 obtain ⟨ih0, ih1⟩ := image_Take.mono_l k
 unfold image_Take.f
 repeat' first
  | (with_reducible first | exact ih0 _ _ _ | exact ih1 _ _ _ _ _ | exact shape_Check.mono _ _ | exact shape_Size.mono _ _ | exact LeO.refl _ | exact LeO.none _ | refine LeO.ite ?_ ?_ | refine LeO.bind ?_ (fun _ => ?_))
  | first | exact ih0 _ _ _ | exact ih1 _ _ _ _ _ | exact shape_Check.mono _ _ | exact shape_Size.mono _ _ | exact LeO.none _ | refine LeO.ite ?_ ?_ | refine LeO.bind ?_ (fun _ => ?_)
def image_Take.T8 : Bool × List (List Nat × List Nat) := (true, [([], []), ([0], [0]), ([], []), ([], []), ([3], [3]), ([4], [4]), ([5], [5]), ([5], [5]), ([5], [5]), ([1, 2, 0, 1, 2, 3, 4, 5, 6], [1, 2]), ([9, 6, 4, 0, 1, 2, 3, 4, 5, 6], [6, 9]), ([7, 10, 0, 1, 2, 3, 4, 5, 6, 7, 9, 10], [3, 7])])
def image_Take.B8 : List Nat := [0, 1, 0, 0, 8, 24, 56, 56, 56, 127, 639, 1791]
theorem image_Take.tab8 : rtab .any (opsOf Try.f76 8) = image_Take.T8 := by kernel_rfl
theorem image_Take.bits8 : waitsOk image_Take.T8.2 image_Take.B8 = true := by kernel_rfl
set_option maxHeartbeats 8000000 in
set_option maxRecDepth 100000 in
theorem image_Take.calls (k : Nat) (A0 : Option Addr) (c0 : Nat) (l0 : List Int) (r1 : List Int) (r2 : List Int) (r3 : List Int) (r4 : Int) (w : World) (hr0 : Kd.C (Kd.int .u8) w A0 l0.length l0) (hc0 : l0.length ≤ c0) (h : image_Take.f k l0 = some (r1, r2, r3, r4)) :
  Calls Try.prog 76 #[.slice A0 l0.length c0] w fun e w' => ∃ v0_ v1_ v2_ : Value, e = .returned (.tuple #[.agg #[v0_, v1_], v2_, .int .i64 r4]) ∧ Kd.R (Kd.int .i64) 3 w' w.heap.size (fun k_ => some k_ ≠ (v1_ : Value).ownBlock) v0_ r1 ∧ Kd.R (Kd.int .i64) 3 w' w.heap.size (fun k_ => some k_ ≠ (v0_ : Value).ownBlock) v1_ r2 ∧ Kd.R (Kd.int .u8) 5 w' w.heap.size (fun _ => True) v2_ r3 ∧ Below w.heap.size w w' := by
 have hu26 := Try.underlying26
 have HR0 := Aside0.mk hr0
 have HC0 := Aside0.mk hc0
 clear hr0 hc0
 have HB := Aside0.mk (Below.refl w.heap.size w)
 have H : ((pack_TakeList.f l0 1).bind fun bt167 => (if bt167.2.2 = 0 then ((shape_Check.f k bt167.1).bind fun t174 => (if t174 = true then ((shape_Size.f k bt167.1).bind fun t175 => (image_Take.j0 k bt167.1 bt167.2.1 (decide ((bt167.2.1.length : Int) < (wrap64 (8 * t175)))))) else (image_Take.j0 k bt167.1 bt167.2.1 true))) else (image_Take.j0 k bt167.1 bt167.2.1 true))) = some (r1, r2, r3, r4) := h
 clear h
 replace H := Option.bind_eq_some_iff.mp H
 obtain ⟨⟨t167, t168, t169⟩, A20, H⟩ := H
 replace H : (if t169 = 0 then ((shape_Check.f k t167).bind fun t174 => (if t174 = true then ((shape_Size.f k t167).bind fun t175 => (image_Take.j0 k t167 t168 (decide ((t168.length : Int) < (wrap64 (8 * t175)))))) else (image_Take.j0 k t167 t168 true))) else (image_Take.j0 k t167 t168 true)) = some (r1, r2, r3, r4) := H
 have A2 := Aside0.mk A20
 clear A20
 have HC3 := Aside0.mk H
 clear H
 go_enter Try.func76, Try.ntmps76
 go_upto_region 2 with (first | ((with_reducible refine gate_dst (N := 2) rfl ?_); (try (refine gate_guard (by rfl) ?_; dsimp only)); refine box_event ?hg (N := 2) ?hd (cs := #[.slice none 0 0, .slice none 0 0]) (t := 26) ?hr ?_; (case hd => rfl); (case hg => rfl); (case hr => first | (go_simp; done) | (go_simp; rfl)); intro gb166 hg w4 hbox hb; have BK166 := Aside0.mk (hbox); have GW166 := Aside0.mk ((by rw [hg]; exact (below_size (bq0_ HB.out)) : w.heap.size ≤ gb166)); have GE166 := Aside0.mk ((by rw [hg]; exact (below_size (bq0_ HB.out)) : w.heap.size ≤ gb166)); replace HB := Aside0.mk (below_step (bq0_ HB.out) hb); clear hb hbox hg) | ((with_reducible refine gate_callee (f := 86) rfl ?_); refine gL_ (some 12) Try.func86 #[.slice A0 l0.length c0, .int .i64 1] ?_; (with_reducible refine (pack_TakeList.calls _ _ l0 1 t167 t168 t169 _ ?side1 ?side2 A2.out).mono ?_); (case side1 => exact mvC_ ((Kd.C_below HR0.out HB.out))); (case side2 => exact HC0.out); rintro e w5 ⟨v170, v172, rfl, ho0, ho1, hb⟩; refine ⟨_, rfl, ?_⟩; have HO171 := Aside0.mk (Kd.R_lower ho0 (below_size (bq1_ HB.out GE166.out))); have HO173 := Aside0.mk (Kd.R_lower ho1 (below_size (bq1_ HB.out GE166.out))); replace BK166 := mvB_ BK166.out hb; replace HB := Aside0.mk (below_step (bq1_ HB.out GE166.out) hb); (try clear hb); (try clear ho0); (try clear ho1)))
 (try simp only [Act.put, sA_, sB_, sC_])
 go_cut [30] (fun v30 wc => ∃ (kq : Nat) (x30_2 : Bool), v30 = .bool x30_2 ∧ Aside0 (image_Take.j0 kq t167 t168 x30_2 = some (r1, r2, r3, r4)) ∧ Aside0 (kq ≤ k) ∧ Aside0 (Kd.R (Kd.int .i64) 3 wc w.heap.size (fun _ => True) v170 t167) ∧ Aside0 (Kd.R (Kd.int .u8) 5 wc w.heap.size (fun _ => True) v172 t168) ∧ Aside0 (wc.heap[gb166]? = some (.cells #[(.slice none 0 0), (.slice none 0 0)] 26 (0, 0))) ∧ Aside0 (Below w.heap.size w wc))
 case first =>
  have H := HC3.out
  clear HC3
  by_cases c6 : t169 = 0
  ·rw [if_pos c6] at H
   obtain ⟨c6b0, c6b1⟩ := eqT_ c6
   clear c6
   (first | rw [c6b0] | (simp only [i64_w, i32_w]; rw [c6b0]) | rw [c6b1] | skip)
   replace H := Option.bind_eq_some_iff.mp H
   obtain ⟨t174, A70, H⟩ := H
   replace H : (if t174 = true then ((shape_Size.f k t167).bind fun t175 => (image_Take.j0 k t167 t168 (decide ((t168.length : Int) < (wrap64 (8 * t175)))))) else (image_Take.j0 k t167 t168 true)) = some (r1, r2, r3, r4) := H
   have A7 := Aside0.mk A70
   clear A70
   by_cases c8 : t174 = true
   ·subst c8
    have H1 : ((shape_Size.f k t167).bind fun t175 => (image_Take.j0 k t167 t168 (decide ((t168.length : Int) < (wrap64 (8 * t175)))))) = some (r1, r2, r3, r4) := by rw [if_pos rfl] at H; exact H
    clear H
    have H := H1
    clear H1
    replace H := Option.bind_eq_some_iff.mp H
    obtain ⟨t175, A90, H⟩ := H
    replace H : (image_Take.j0 k t167 t168 (decide ((t168.length : Int) < (wrap64 (8 * t175))))) = some (r1, r2, r3, r4) := H
    have A9 := Aside0.mk A90
    clear A90
    have H' := Aside0.mk H
    clear H
    obtain ⟨Ao10, co10, eo10⟩ := Kd.R_slice HO171.out
    subst eo10
    go_wp2_with (first | (go_at_call 59; (with_reducible refine (shape_Check.calls k _ _ t167 true _ ?side1 ?side2 A7.out).mono ?_); (case side1 => exact mvC_ ((Kd.R_reads' HO171.out).2.2)); (case side2 => exact (Kd.R_reads' HO171.out).2.1); rintro e w' ⟨rfl, ⟨nd, rfl⟩⟩; obtain ⟨Ao11, co11, eo11⟩ := Kd.R_slice HO173.out; subst eo11) | (go_at_call 60; (with_reducible refine (shape_Size.calls k _ _ t167 t175 _ ?side1 ?side2 A9.out).mono ?_); (case side1 => exact mvC_ ((Kd.R_reads' HO171.out).2.2)); (case side2 => exact (Kd.R_reads' HO171.out).2.1); rintro e w' ⟨rfl, ⟨nd, rfl⟩⟩))
    go_meet
    case rel => exact ⟨_, (decide ((t168.length : Int) < (wrap64 (8 * t175)))), (by first | rfl | (simp; done) | (simp [*]; done)), H', ⟨by first | omega | exact Nat.le_refl _⟩, ⟨mvR_ HO171.out⟩, ⟨mvR_ HO173.out⟩, ⟨by (with_reducible repeat (first | refine blk_drewN ?_ _ | refine blk_drew ?_ | refine blk_alloc ?_ _)); exact BK166.out⟩, ⟨bq1_ HB.out GE166.out⟩⟩
   ·replace c8 := Bool.eq_false_iff.mpr c8
    subst c8
    have H1 : (image_Take.j0 k t167 t168 true) = some (r1, r2, r3, r4) := by rw [if_neg (show ¬ (false = true) by decide)] at H; exact H
    clear H
    have H := H1
    clear H1
    have H' := Aside0.mk H
    clear H
    obtain ⟨Ao12, co12, eo12⟩ := Kd.R_slice HO171.out
    subst eo12
    go_wp2_with (first | (go_at_call 59; (with_reducible refine (shape_Check.calls k _ _ t167 false _ ?side1 ?side2 A7.out).mono ?_); (case side1 => exact mvC_ ((Kd.R_reads' HO171.out).2.2)); (case side2 => exact (Kd.R_reads' HO171.out).2.1); rintro e w' ⟨rfl, ⟨nd, rfl⟩⟩))
    go_meet
    case rel => exact ⟨_, (true), (by first | rfl | (simp; done) | (simp [*]; done)), H', ⟨by first | omega | exact Nat.le_refl _⟩, ⟨mvR_ HO171.out⟩, ⟨mvR_ HO173.out⟩, ⟨by (with_reducible repeat (first | refine blk_drewN ?_ _ | refine blk_drew ?_ | refine blk_alloc ?_ _)); exact BK166.out⟩, ⟨bq1_ HB.out GE166.out⟩⟩
  ·rw [if_neg c6] at H
   have c6b0 : (t169 == 0) = false := beq_eq_false_iff_ne.mpr c6
   have c6b1 : (t169 != 0) = true := bne_iff_ne.mpr c6
   (first | rw [c6b0] | (simp only [i64_w, i32_w]; rw [c6b0]) | rw [c6b1] | skip)
   have H' := Aside0.mk H
   clear H
   go_wp2
   go_meet
   case rel => exact ⟨_, (true), (by first | rfl | (simp; done) | (simp [*]; done)), H', ⟨by first | omega | exact Nat.le_refl _⟩, ⟨mvR_ HO171.out⟩, ⟨mvR_ HO173.out⟩, ⟨by (with_reducible repeat (first | refine blk_drewN ?_ _ | refine blk_drew ?_ | refine blk_alloc ?_ _)); exact BK166.out⟩, ⟨bq1_ HB.out GE166.out⟩⟩
 case rest =>
  clear HC3
  try clear p2
  try clear c6
  try clear c6b0
  try clear c6b1
  try clear p6
  try clear c7
  try clear c8
  obtain ⟨kq, x30_2, rfl, HA, HJ2, HO_5, HO_6, BK166, HB⟩ := hcut
  cases kq with
  | zero => exact absurd HA.out (by simp [image_Take.j0])
  | succ kj2 =>
   have H := HA.out
   clear HA
   simp only [image_Take.j0] at H
   by_cases c13 : x30_2 = true
   ·subst c13
    have H1 : (some (([] : List Int), ([] : List Int), ([] : List Int), 50)) = some (r1, r2, r3, r4) := by rw [if_pos rfl] at H; exact H
    clear H
    have H := H1
    clear H1
    simp only [Option.some.injEq, Prod.mk.injEq] at H
    obtain ⟨rfl, rfl, rfl, rfl⟩ := H
    have hcz14_0 := cz0_ BK166.out
    have hcz14_1 := cz1_ BK166.out
    have hfz14_0 := blk_frozen BK166.out 0
    have hfz14_1 := blk_frozen BK166.out 1
    go_wp2
    refine bodyPost_ret (results_ctt rfl _ _ gb166 26 #[.slice none 0 0, .slice none 0 0] (0, 0) _ rfl (by (with_reducible repeat (first | refine blk_drewN ?_ _ | refine blk_drew ?_ | refine blk_alloc ?_ _)); refine blk_put (cs := #[.slice none 0 0, .slice none 0 0]) ?_ 1 _ rfl; (with_reducible repeat (first | refine blk_drewN ?_ _ | refine blk_drew ?_ | refine blk_alloc ?_ _)); refine blk_put (cs := #[.slice none 0 0, .slice none 0 0]) ?_ 0 _ rfl; (with_reducible repeat (first | refine blk_drewN ?_ _ | refine blk_drew ?_ | refine blk_alloc ?_ _)); exact BK166.out) Try.underlying26 rfl (by kernel_rfl)) rfl ?_
    exact ⟨_, _, _, by first | rfl | (simp <;> rfl) | (simp [*] <;> rfl), by first | exact Kd.R_nil _ _ _ _ _ | exact Kd.N_nil _ _ _ _ _ | exact Kd.V_nil _ _ _ _ _ | exact Kd.Q_nil _ _ _ _ _ | exact Kd.S_nil _ _ _ _ _, by first | exact Kd.R_nil _ _ _ _ _ | exact Kd.N_nil _ _ _ _ _ | exact Kd.V_nil _ _ _ _ _ | exact Kd.Q_nil _ _ _ _ _ | exact Kd.S_nil _ _ _ _ _, by first | exact Kd.R_nil _ _ _ _ _ | exact Kd.N_nil _ _ _ _ _ | exact Kd.V_nil _ _ _ _ _ | exact Kd.Q_nil _ _ _ _ _ | exact Kd.S_nil _ _ _ _ _, bq1_ HB.out GE166.out⟩
   ·replace c13 := Bool.eq_false_iff.mpr c13
    subst c13
    have H1 : ((shape_Size.f kj2 t167).bind fun t176 => (if 0 ≤ t176 then (if (t176 : Int).toNat ≤ 35184372088832 then ((some (List.replicate (t176 : Int).toNat 0 : List Int)).bind fun y177 => (image_Take.l0 kj2 t168 (y177.length : Int) 0 t167 y177)) else (none)) else (none))) = some (r1, r2, r3, r4) := by rw [if_neg (show ¬ (false = true) by decide)] at H; exact H
    clear H
    have H := H1
    clear H1
    replace H := Option.bind_eq_some_iff.mp H
    obtain ⟨t176, A150, H⟩ := H
    replace H : (if 0 ≤ t176 then (if (t176 : Int).toNat ≤ 35184372088832 then ((some (List.replicate (t176 : Int).toNat 0 : List Int)).bind fun y177 => (image_Take.l0 kj2 t168 (y177.length : Int) 0 t167 y177)) else (none)) else (none)) = some (r1, r2, r3, r4) := H
    have A15 := Aside0.mk A150
    clear A150
    by_cases c16 : 0 ≤ t176
    ·rw [if_pos c16] at H
     have c16b0 := eq_true c16
     have c16b1 : decide (0 ≤ t176) = true := decide_eq_true c16
     clear c16
     by_cases c17 : (t176 : Int).toNat ≤ 35184372088832
     ·rw [if_pos c17] at H
      have c17b0 := eq_true c17
      have c17b1 : decide ((t176 : Int).toNat ≤ 35184372088832) = true := decide_eq_true c17
      clear c17
      obtain ⟨y177, hy177⟩ : ∃ y_ : List Int, y_ = (List.replicate (t176 : Int).toNat 0) := ⟨_, rfl⟩
      replace H : (image_Take.l0 kj2 t168 (y177.length : Int) 0 t167 y177) = some (r1, r2, r3, r4) := by first | (rw [hy177]; with_reducible exact H) | (have H2_ := (Option.bind_some _ _).symm.trans H; rw [hy177]; with_reducible exact H2_) | (have H2_ := (Option.bind_some _ _).symm.trans H; with_reducible exact H2_) | with_reducible exact H | (rw [hy177]; exact H) | exact H
      have Ny177 := Aside0.mk hy177
      clear hy177
      have H' := Aside0.mk H
      clear H
      obtain ⟨Ao18, co18, eo18⟩ := Kd.R_slice HO_5.out
      subst eo18
      go_wp2_with (first | ((with_reducible refine gate_callee (f := 60) rfl ?_); refine gL_ (some 34) Try.func60 #[.slice Ao18 t167.length co18] ?_; (with_reducible refine (shape_Size.calls kj2 _ _ t167 t176 _ ?side1 ?side2 A15.out).mono ?_); (case side1 => exact mvC_ ((Kd.R_reads' HO_5.out).2.2)); (case side2 => exact (Kd.R_reads' HO_5.out).2.1); rintro e w' ⟨rfl, ⟨nd, rfl⟩⟩; refine ⟨_, rfl, ?_⟩; (try (rw [drewN_self wc]; generalize hq_ : World.drewN wc _ = wc; have n0_ : Aside0 (Kd.R (Kd.int .i64) 3 wc w.heap.size (fun _ => True) (.slice Ao18 t167.length co18) t167) := ⟨by rw [← hq_]; exact (mvR_ HO_5.out)⟩; have n1_ : Aside0 (Kd.R (Kd.int .u8) 5 wc w.heap.size (fun _ => True) v172 t168) := ⟨by rw [← hq_]; exact (mvR_ HO_6.out)⟩; have n2_ : Aside0 (wc.heap[gb166]? = some (.cells #[.slice none 0 0, .slice none 0 0] 26 (0, 0))) := ⟨by rw [← hq_]; exact (mvK_ BK166.out)⟩; have n3_ : Aside0 (Below w.heap.size w wc) := ⟨by rw [← hq_]; exact (bq1_ HB.out GE166.out)⟩; clear HO_5 HO_6 BK166 HB hq_; have HO_5 := n0_; have HO_6 := n1_; have BK166 := n2_; have HB := n3_; clear n0_ n1_ n2_ n3_))) | ((with_reducible refine gate_dst (N := 35) rfl ?_); (try (refine gate_guard (by rfl) ?_; dsimp only)); refine Kd.R_make (Kd.int .i64) _ 3 rfl (N := 35) rfl 24 _ _ rfl t176 rfl rfl Try.underlying24 (.int .i64 0) 8 info3 rfl (by decide) (by omega) 0 (ok := fun _ => True) (okp := fun _ => True) rfl (fun _ hk => hk) trivial od_ (Nat.le_trans (Nat.mul_le_mul_right _ (od_ : t176.toNat ≤ 35184372088832)) (by omega)) (Below.refl _ _) (Nat.le_refl _) ?_; intro v178 w19 ho20 hb hg_ hnew_; clear hg_ hnew_; (first | rw [← Ny177.out] at ho20 | (simp only [Int.reduceToNat] at ho20; rw [← Ny177.out] at ho20)); have HO179 := Aside0.mk (Kd.R_lower (Kd.R_new' ho20 (Kd.R_lt (mvR_ HO_5.out))) (below_size (bq1_ HB.out GE166.out))); replace HO_5 := Aside0.mk (Kd.R_elder' (mvR_ HO_5.out) (Kd.R_base ho20) hb); replace HO_6 := mbR_ HO_6.out hb; replace BK166 := mvB_ BK166.out hb; replace HB := Aside0.mk (below_step (bq1_ HB.out GE166.out) hb); clear hb ho20; obtain ⟨Ao21, co21, eo21⟩ := Kd.R_slice HO179.out; subst eo21) | ((with_reducible refine gate_dst (N := 8) rfl ?_); (try (refine gate_guard (by rfl) ?_; dsimp only)); refine box_event ?hg (N := 8) ?hd (cs := #[.slice none 0 0, .slice none 0 0]) (t := 26) ?hr ?_; (case hd => rfl); (case hg => rfl); (case hr => first | (go_simp; done) | (go_simp; rfl)); intro gb180 hg w22 hbox hb; have BK180 := Aside0.mk (hbox); have GW180 := Aside0.mk ((by rw [hg]; exact (below_size (bq1_ HB.out GE166.out)) : w.heap.size ≤ gb180)); have GE180 := Aside0.mk ((by rw [hg]; exact (below_size (bq1_ HB.out GE166.out)) : w.heap.size ≤ gb180)); have NB166_180 := Aside0.mk ((by rw [hg]; exact Nat.ne_of_lt (blk_lt (g := gb166) (o := .cells #[.slice none 0 0, .slice none 0 0] 26 (0, 0)) (mvK_ BK166.out)) : gb166 ≠ gb180)); have NB180_166 := Aside0.mk ((by rw [hg]; exact Nat.ne_of_gt (blk_lt (g := gb166) (o := .cells #[.slice none 0 0, .slice none 0 0] 26 (0, 0)) (mvK_ BK166.out)) : gb180 ≠ gb166)); replace HO_5 := mbR_ HO_5.out hb; replace HO_6 := mbR_ HO_6.out hb; replace HO179 := mbR_ HO179.out hb; replace BK166 := mvB_ BK166.out hb; replace HB := Aside0.mk (below_step (bq1_ HB.out GE166.out) hb); clear hb hbox hg; have hnb23 := NB180_166.out; have hnc23 := NB166_180.out; have hcz24_0 := cz0_ BK180.out; have hcz24_1 := cz1_ BK180.out; have hfz24_0 := blk_frozen BK180.out 0; have hfz24_1 := blk_frozen BK180.out 1))
      go_loopg [6, 40] kj2 (fun kq v6 v40 w' => ∃ (x6_2 : List Int) (x40_2 : Int) (x181000_2 : List Int) (x181001_2 : List Int) (u181000 : Value) (u181001 : Value), v40 = .int .i64 x40_2 ∧ Aside0 (image_Take.l0 kq x6_2 (y177.length : Int) x40_2 x181000_2 x181001_2 = some (r1, r2, r3, r4)) ∧ Aside0 (kq ≤ kj2) ∧ Aside0 (Kd.R (Kd.int .u8) 5 w' w.heap.size (fun _ => True) v6 x6_2) ∧ Aside0 (Kd.R (Kd.int .i64) 3 w' w.heap.size (fun k_ => some k_ ≠ (u181001 : Value).ownBlock) u181000 x181000_2) ∧ Aside0 (Kd.R (Kd.int .i64) 3 w' w.heap.size (fun k_ => some k_ ≠ (u181000 : Value).ownBlock) u181001 x181001_2) ∧ Aside0 (w'.heap[gb166]? = some (.cells #[(.slice none 0 0), (.slice none 0 0)] 26 (0, 0))) ∧ Aside0 (w'.heap[gb180]? = some (.cells #[u181000, u181001] 26 (0, 0))) ∧ Aside0 (Below w.heap.size w w'))
      case atStart => exact ⟨(t168), (0), (t167), (y177), (.slice Ao18 t167.length co18), (.slice Ao21 y177.length co21), (by first | rfl | (simp; done) | (simp [*]; done)), H', ⟨Nat.le_refl _⟩, ⟨by (with_reducible repeat (first | apply Kd.R_alloc | apply Kd.R_drewN | apply Kd.R_drew)); exact Kd.R_mono (Kd.R_far (p := ⟨gb180, 1, none⟩) (Kd.R_far (p := ⟨gb180, 0, none⟩) (Kd.R_types HO_6.out BK180.out (by decide)) (fun _ hk => hk.2) (.slice Ao18 t167.length co18)) (fun _ hk => hk.2) (.slice Ao21 y177.length co21)) (fun _ hk => trivial)⟩, ⟨by (with_reducible repeat (first | apply Kd.R_alloc | apply Kd.R_drewN | apply Kd.R_drew)); exact Kd.R_mono (Kd.R_far (p := ⟨gb180, 1, none⟩) (Kd.R_far (p := ⟨gb180, 0, none⟩) (Kd.R_types HO_5.out BK180.out (by decide)) (fun _ hk => hk.2) (.slice Ao18 t167.length co18)) (fun _ hk => hk.2) (.slice Ao21 y177.length co21)) (fun _ hk => hk.1.2)⟩, ⟨by (with_reducible repeat (first | apply Kd.R_alloc | apply Kd.R_drewN | apply Kd.R_drew)); exact Kd.R_mono (Kd.R_far (p := ⟨gb180, 1, none⟩) (Kd.R_far (p := ⟨gb180, 0, none⟩) (Kd.R_types HO179.out BK180.out (by decide)) (fun _ hk => hk.2) (.slice Ao18 t167.length co18)) (fun _ hk => hk.2) (.slice Ao21 y177.length co21)) (fun _ hk => hk.1.2)⟩, ⟨by (with_reducible repeat (first | refine blk_drewN ?_ _ | refine blk_drew ?_ | refine blk_alloc ?_ _)); refine blk_far ?_ NB166_180.out _; (with_reducible repeat (first | refine blk_drewN ?_ _ | refine blk_drew ?_ | refine blk_alloc ?_ _)); refine blk_far ?_ NB166_180.out _; (with_reducible repeat (first | refine blk_drewN ?_ _ | refine blk_drew ?_ | refine blk_alloc ?_ _)); exact BK166.out⟩, ⟨by (with_reducible repeat (first | refine blk_drewN ?_ _ | refine blk_drew ?_ | refine blk_alloc ?_ _)); refine blk_put (cs := #[.slice Ao18 t167.length co18, .slice none 0 0]) ?_ 1 _ rfl; (with_reducible repeat (first | refine blk_drewN ?_ _ | refine blk_drew ?_ | refine blk_alloc ?_ _)); refine blk_put (cs := #[.slice none 0 0, .slice none 0 0]) ?_ 0 _ rfl; (with_reducible repeat (first | refine blk_drewN ?_ _ | refine blk_drew ?_ | refine blk_alloc ?_ _)); exact BK180.out⟩, ⟨bq2_ HB.out GE166.out GE180.out⟩⟩
      case round =>
       clear H'
       try clear c1
       try clear c2
       try clear p2
       try clear c6
       try clear c6b0
       try clear c6b1
       try clear p6
       try clear c7
       try clear c8
       try clear c13
       try clear c16
       try clear c16b0
       try clear c16b1
       try clear c17
       try clear c17b0
       try clear c17b1
       try clear c23
       try clear hcz14_0
       try clear hcz14_1
       try clear hcz24_0
       try clear hcz24_1
       try clear hfz14_0
       try clear hfz14_1
       try clear hfz24_0
       try clear hfz24_1
       try clear p2
       try clear p6
       obtain ⟨x6_2, x40_2, x181000_2, x181001_2, u181000, u181001, rfl, HA, HK2, HO_6, HO_181000, HO_181001, BK166, BK180, HB⟩ := hrel
       cases gk with
       | zero => exact absurd HA.out (by simp [image_Take.l0])
       | succ k2 =>
        have H := HA.out
        clear HA
        simp only [image_Take.l0] at H
        by_cases c25 : x40_2 < (y177.length : Int)
        ·rw [if_pos c25] at H
         have c25b0 : decide (x40_2 < (y177.length : Int)) = true := decide_eq_true c25
         clear c25
         replace H := Option.bind_eq_some_iff.mp H
         obtain ⟨⟨t181, t182, t183⟩, A260, H⟩ := H
         replace H : (if 0 ≤ x40_2 then (if x40_2 < (x181001_2.length : Int) then (image_Take.l0 k2 t182 (y177.length : Int) (wrap64 (x40_2 + 1)) x181000_2 (x181001_2.set (x40_2 : Int).toNat t181)) else (none)) else (none)) = some (r1, r2, r3, r4) := H
         have A26 := Aside0.mk A260
         clear A260
         by_cases c27 : 0 ≤ x40_2
         ·rw [if_pos c27] at H
          have c27b0 : decide (0 ≤ x40_2) = true := decide_eq_true c27
          clear c27
          by_cases c28 : x40_2 < (x181001_2.length : Int)
          ·rw [if_pos c28] at H
           have c28b0 : decide (x40_2 < (x181001_2.length : Int)) = true := decide_eq_true c28
           clear c28
           obtain ⟨y186, hy186⟩ : ∃ y_ : List Int, y_ = (x181001_2.set (x40_2 : Int).toNat t181) := ⟨_, rfl⟩
           replace H : (image_Take.l0 k2 t182 (y177.length : Int) (wrap64 (x40_2 + 1)) x181000_2 y186) = some (r1, r2, r3, r4) := by first | (rw [hy186]; with_reducible exact H) | (have H2_ := (Option.bind_some _ _).symm.trans H; rw [hy186]; with_reducible exact H2_) | (have H2_ := (Option.bind_some _ _).symm.trans H; with_reducible exact H2_) | with_reducible exact H | (rw [hy186]; exact H) | exact H
           have Ny186 := Aside0.mk hy186
           clear hy186
           have H' := Aside0.mk H
           clear H
           try go_wp2
           replace HO_6 := Aside0.mk (Kd.R_drew HO_6.out)
           replace HO_181000 := Aside0.mk (Kd.R_drew HO_181000.out)
           replace HO_181001 := Aside0.mk (Kd.R_drew HO_181001.out)
           replace BK166 := Aside0.mk (blk_drew BK166.out)
           replace BK180 := Aside0.mk (blk_drew BK180.out)
           replace HB := Aside0.mk (below_drew1 HB.out)
           obtain ⟨Ao31, co31, eo31⟩ := Kd.R_slice HO_6.out
           (first | subst eo31 | (injection eo31 with f1_ f2_ f3_; have f4_ := f1_.symm; have f5_ := f3_.symm; clear f1_ f2_ f3_; subst f4_; subst f5_))
           refine start_ (n := 12) (S := fun w' => w'.cell? ⟨gb180, 0, none⟩ = some (u181000) ∧ w'.cell? ⟨gb180, 1, none⟩ = some (u181001)) (ds := [10]) L76_0 (by kernel_rfl) rfl rfl ⟨(blk_cell BK180.out 0).trans rfl, (blk_cell BK180.out 1).trans rfl⟩ (fun hHeld => ?_); refine with_tabW image_Take.tab8 image_Take.bits8 (fun HT_ HW_ => ?_)
           generalize wr.drew = w30 at HO_6 HO_181000 HO_181001 BK166 BK180 HB hHeld ⊢
           refine pu_ 0 (some 44) L76_1 HT_ ?_
           refine pu_ 2 (some 46) L76_2 HT_ ?_
           refine pu_ 3 (some 47) L76_3 HT_ ?_
           refine ta_ 1 (some 45) L76_4 HT_ HW_ hHeld ?_ (hy := by rintro w' ⟨s0, s1⟩; go_simp; with_reducible rfl)
           refine one_ (i := 4) (N := some 48) L76_5 rfl rfl (one_of HT_.out (by kernel_rfl)) (by decide) (fun K hK => ?_)
           refine goes_ Try.func74 (by kernel_rfl) rfl #[.slice Ao31 x6_2.length co31, .int .i64 8] (by rfl) rfl rfl (by (try simp only [List.map_toArray, List.map_cons, List.map_nil]); first | done | rfl | (simp only [List.length_drop, List.length_take]; rfl)) ?_
           with_reducible refine (pack_Take.calls _ _ x6_2 8 t181 t182 t183 _ ?side1 ?side2 A26.out).mono ?_
           (case side1 => exact mvC_ ((Kd.R_reads' HO_6.out).2.2))
           (case side2 => exact (Kd.R_reads' HO_6.out).2.1)
           rintro e w32 ⟨v184, rfl, ho0, hb⟩
           refine ⟨_, rfl, ?_⟩
           have HO185 := Aside0.mk (Kd.R_lower (Kd.R_new' ho0 (Kd.R_lt (mvR_ HO_6.out))) (below_size (bq2_ HB.out GE166.out GE180.out)))
           replace HO_6 := Aside0.mk (Kd.R_elder' (mvR_ HO_6.out) (Kd.R_base ho0) hb)
           replace HO_181000 := mbR_ HO_181000.out hb
           replace HO_181001 := mbR_ HO_181001.out hb
           replace BK166 := mvB_ BK166.out hb
           replace BK180 := mvB_ BK180.out hb
           replace HB := Aside0.mk (below_step (bq2_ HB.out GE166.out GE180.out) hb)
           (try clear hb)
           (try clear hb2)
           (try clear hk)
           (try clear hi)
           (try clear ho0)
           have p29 : 0 ≤ (x40_2 : Int) := od_
           have q29 : (x40_2 : Int) < ((x181001_2.length : Int) : Int) := od_
           obtain ⟨go29, co29, eo29, gb29, gl29, cl29, HG29⟩ := Kd.R_form HO_181001.out (by omega)
           (first | cases eo29 | (injection eo29 with ea_ en_ ec_; (first | subst ea_ | (injection ea_ with ea_; subst ea_)); subst ec_; clear en_))
           have GB29 := Aside0.mk gb29
           have GG29 := Aside0.mk HG29
           clear gb29 gl29 HG29
           obtain ⟨hx29_0, hf29_0⟩ := Kd.R_celln 0 HO_181001.out (x40_2 : Int) p29 q29
           replace p29 := eq_true p29
           replace q29 := eq_true q29
           have HP33 := Kd.R_putn HO_181001.out (x40_2 : Int) t181
           rw [← Ny186.out] at HP33
           have HQ33 := Aside0.mk HP33
           clear HP33
           refine hK.out _ _ ⟨(blk_cell BK180.out 0).trans rfl, (blk_cell BK180.out 1).trans rfl⟩ (fun hHeld => ?_)
           clear hK K
           refine norm_ (a' := ?_) ?_ ?_
           rotate_left
           ·show Act.put _ (some 48) _ = _
            simp only [Act.put, sA_, sB_, sC_, i64_w, i32_w]
            rfl
           refine pu_ 5 (some 43) L76_6 HT_ ?_
           refine pu_ 6 (some 49) L76_7 HT_ ?_
           refine pu_ 7 (some 50) L76_8 HT_ ?_
           refine pu_ 8 (some 51) L76_9 HT_ ?_
           refine pu_ 9 (some 52) L76_10 HT_ ?_
           refine last_ (i := 10) (N := none) L76_11 rfl rfl (one_of HT_.out (by kernel_rfl)) (by decide) (fun K hK => ?_)
           refine skip_ (w1 := ?_) (by rfl) rfl ?_ ?_
           rotate_left
           ·go_simp
            rfl
           refine hK.out _ _ ?_
           clear hK K
           refine pu_ 11 (some 6) L76_12 HT_ ?_
           refine done_ (done_of HT_.out (by kernel_rfl)) ?_
           try go_wp2
           go_roundg k2
           case measure => have := HJ2.out; have := HK2.out; omega
           case rel => exact ⟨(t182), (wrap64 (x40_2 + 1)), (x181000_2), (y186), (u181000), (.slice (some ⟨go29, 0, none⟩) x181001_2.length co29), (by first | rfl | (simp; done) | (simp [*]; done)), H', ⟨by have := HJ2.out; have := HK2.out; omega⟩, ⟨by (with_reducible repeat (first | apply Kd.R_alloc | apply Kd.R_drewN | apply Kd.R_drew)); exact Kd.R_mono (Kd.R_far (p := ⟨go29, (x40_2 : Int).toNat, none⟩) (Kd.R_types HO185.out GG29.out (by decide)) (fun _ hk => hk.2) (.int .i64 t181)) (fun _ hk => trivial)⟩, ⟨by (with_reducible repeat (first | apply Kd.R_alloc | apply Kd.R_drewN | apply Kd.R_drew)); exact Kd.R_mono (Kd.R_far (p := ⟨go29, (x40_2 : Int).toNat, none⟩) (Kd.R_mono HO_181000.out (fun k_ hk => (⟨hk, fun e_ => hk (by rw [e_]; rfl)⟩ : _ ∧ k_ ≠ go29))) (fun _ hk => hk.2) (.int .i64 t181)) (fun _ hk => hk.1)⟩, ⟨mvR_ HQ33.out⟩, ⟨by (with_reducible repeat (first | refine blk_drewN ?_ _ | refine blk_drew ?_ | refine blk_alloc ?_ _)); refine blk_far ?_ (by have h_ := Kd.R_ne HO_181001.out BK166.out (by decide); intro e_; exact h_ (by rw [e_]; rfl)) _; (with_reducible repeat (first | refine blk_drewN ?_ _ | refine blk_drew ?_ | refine blk_alloc ?_ _)); exact BK166.out⟩, ⟨by (with_reducible repeat (first | refine blk_drewN ?_ _ | refine blk_drew ?_ | refine blk_alloc ?_ _)); refine blk_far ?_ (by have h_ := Kd.R_ne HO_181001.out BK180.out (by decide); intro e_; exact h_ (by rw [e_]; rfl)) _; (with_reducible repeat (first | refine blk_drewN ?_ _ | refine blk_drew ?_ | refine blk_alloc ?_ _)); exact BK180.out⟩, ⟨bq3_ HB.out GB29.out GE166.out GE180.out⟩⟩
          ·rw [if_neg c28] at H
           exact absurd H (by simp)
         ·rw [if_neg c27] at H
          exact absurd H (by simp)
        ·rw [if_neg c25] at H
         have c25b0 : decide (x40_2 < (y177.length : Int)) = false := decide_eq_false c25
         clear c25
         simp only [Option.some.injEq, Prod.mk.injEq] at H
         obtain ⟨rfl, rfl, rfl, rfl⟩ := H
         have hnb34 := NB180_166.out
         have hnc34 := NB166_180.out
         have hcz35_0 := cz0_ BK180.out
         have hcz35_1 := cz1_ BK180.out
         have hfz35_0 := blk_frozen BK180.out 0
         have hfz35_1 := blk_frozen BK180.out 1
         obtain ⟨Ao36, co36, eo36⟩ := Kd.R_slice HO_181000.out
         subst eo36
         have hcz37_0 := cz0_ BK166.out
         have hcz37_1 := cz1_ BK166.out
         have hfz37_0 := blk_frozen BK166.out 0
         have hfz37_1 := blk_frozen BK166.out 1
         obtain ⟨Ao38, co38, eo38⟩ := Kd.R_slice HO_181001.out
         subst eo38
         go_wp2
         refine bodyPost_ret (results_ctt rfl _ _ gb166 26 #[.slice Ao36 x181000_2.length co36, .slice Ao38 x181001_2.length co38] (0, 0) _ rfl (by (with_reducible repeat (first | refine blk_drewN ?_ _ | refine blk_drew ?_ | refine blk_alloc ?_ _)); refine blk_put (cs := #[.slice Ao36 x181000_2.length co36, .slice none 0 0]) ?_ 1 _ rfl; (with_reducible repeat (first | refine blk_drewN ?_ _ | refine blk_drew ?_ | refine blk_alloc ?_ _)); refine blk_put (cs := #[.slice none 0 0, .slice none 0 0]) ?_ 0 _ rfl; (with_reducible repeat (first | refine blk_drewN ?_ _ | refine blk_drew ?_ | refine blk_alloc ?_ _)); exact BK166.out) Try.underlying26 rfl (by kernel_rfl)) rfl ?_
         exact ⟨_, _, _, by first | rfl | (simp <;> rfl) | (simp [*] <;> rfl), by (with_reducible repeat (first | apply Kd.R_alloc | apply Kd.R_drewN | apply Kd.R_drew)); exact Kd.R_mono (Kd.R_far (p := ⟨gb166, 1, none⟩) (Kd.R_far (p := ⟨gb166, 0, none⟩) (Kd.R_types HO_181000.out BK166.out (by decide)) (fun _ hk => hk.2) (.slice Ao36 x181000_2.length co36)) (fun _ hk => hk.2) (.slice Ao38 x181001_2.length co38)) (fun _ hk => hk.1), by (with_reducible repeat (first | apply Kd.R_alloc | apply Kd.R_drewN | apply Kd.R_drew)); exact Kd.R_mono (Kd.R_far (p := ⟨gb166, 1, none⟩) (Kd.R_far (p := ⟨gb166, 0, none⟩) (Kd.R_types HO_181001.out BK166.out (by decide)) (fun _ hk => hk.2) (.slice Ao36 x181000_2.length co36)) (fun _ hk => hk.2) (.slice Ao38 x181001_2.length co38)) (fun _ hk => hk.1), by (with_reducible repeat (first | apply Kd.R_alloc | apply Kd.R_drewN | apply Kd.R_drew)); exact Kd.R_mono (Kd.R_far (p := ⟨gb166, 1, none⟩) (Kd.R_far (p := ⟨gb166, 0, none⟩) (Kd.R_types HO_6.out BK166.out (by decide)) (fun _ hk => hk.2) (.slice Ao36 x181000_2.length co36)) (fun _ hk => hk.2) (.slice Ao38 x181001_2.length co38)) (fun _ hk => trivial), bq2_ HB.out GE166.out GE180.out⟩
     ·rw [if_neg c17] at H
      exact absurd H (by simp)
    ·rw [if_neg c16] at H
     exact absurd H (by simp)
end Go.Proofs.Ytjcgadfmhfhbgaa.A
