/- Lean functions that answer as the Go functions do, and the proofs that they do; no conditions. Written by this session's own driver: a scratch copy of the kit's print with the session's additions (wip/xprint). -/
import Derived.Test.YtmolbbebglfhmaaAx0
import Derived.Test.YtmolbbebglfhmaaAx1
import Derived.Test.YtmolbbebglfhmaaAx2
import Derived.Test.YtmolbbebglfhmaaAx4
namespace Go.Proofs.Ytmolbbebglfhmaa.A
open Go.RowKit Go.Proofs.YtmolbbebglfhmaaW.PrintWords Go.Proofs.YtmolbbebglfhmaaW.PrintLast Go.Proofs.YtmolbbebglfhmaaW.PrintMore
attribute [local go_sem] max2_int min2_int max_two min_two max_three min_three max_four min_four
set_option linter.unusedVariables false
set_option linter.unusedSimpArgs false
def L34_0 : Array Bool := #[false, false, false, false, false, false, false, false, false, false, false, false, false, false]
def L34_1 : Array Bool := #[true, false, false, false, false, false, false, false, false, false, false, false, false, false]
def L34_2 : Array Bool := #[true, true, false, false, false, false, false, false, false, false, false, false, false, false]
def L34_3 : Array Bool := #[true, true, true, false, false, false, false, false, false, false, false, false, false, false]
def L34_4 : Array Bool := #[true, true, true, true, false, false, false, false, false, false, false, false, false, false]
def L34_5 : Array Bool := #[true, true, true, true, true, false, false, false, false, false, false, false, false, false]
def L34_6 : Array Bool := #[true, true, true, true, true, true, false, false, false, false, false, false, false, false]
def L34_7 : Array Bool := #[true, true, true, true, true, true, true, false, false, false, false, false, false, false]
def L34_8 : Array Bool := #[true, true, true, true, true, true, true, false, true, false, false, false, false, false]
def L34_9 : Array Bool := #[true, true, true, true, true, true, true, true, true, false, false, false, false, false]
def L34_10 : Array Bool := #[true, true, true, true, true, true, true, true, true, true, false, false, false, false]
def L34_11 : Array Bool := #[true, true, true, true, true, true, true, true, true, true, true, false, false, false]
def L34_12 : Array Bool := #[true, true, true, true, true, true, true, true, true, true, true, true, false, false]
def L34_13 : Array Bool := #[true, true, true, true, true, true, true, true, true, true, true, true, true, false]
def L34_14 : Array Bool := #[true, true, true, true, true, true, true, true, true, true, true, true, true, true]
def L34_15 : Array Bool := #[false, false, false, false, false, false, false, false, false, false]
def L34_16 : Array Bool := #[true, false, false, false, false, false, false, false, false, false]
def L34_17 : Array Bool := #[true, false, true, false, false, false, false, false, false, false]
def L34_18 : Array Bool := #[true, false, true, true, false, false, false, false, false, false]
def L34_19 : Array Bool := #[true, true, true, true, false, false, false, false, false, false]
def L34_20 : Array Bool := #[true, true, true, true, true, false, false, false, false, false]
def L34_21 : Array Bool := #[true, true, true, true, true, true, false, false, false, false]
def L34_22 : Array Bool := #[true, true, true, true, true, true, true, false, false, false]
def L34_23 : Array Bool := #[true, true, true, true, true, true, true, true, false, false]
def L34_24 : Array Bool := #[true, true, true, true, true, true, true, true, true, false]
def L34_25 : Array Bool := #[true, true, true, true, true, true, true, true, true, true]
mutual
def chain_Put.j0 : Nat → List (S74) → Int → Int → Bool → List Int → List Int → Option ((List (S74)) × Int)
 | 0, _, _, _, _, _, _ => none
 | k + 1, x0, x1, x8, x11, x142000, x142001 => if x11 = true then (some (x0, 170)) else ((tensor_Check.f k x142000 x142001).bind fun t144 => (if t144 = true then (if x8 > 0 then (if 0 < (x0.length : Int) then ((slices_Equal_int_int.f k ((rd_T74 x0 0).f1.f0) x142000).bind fun t146 => (chain_Put.j1 k x0 x1 x8 (!t146) x142000 x142001)) else (none)) else (chain_Put.j1 k x0 x1 x8 false x142000 x142001)) else (some (x0, 30))))
def chain_Put.j1 : Nat → List (S74) → Int → Int → Bool → List Int → List Int → Option ((List (S74)) × Int)
 | 0, _, _, _, _, _, _ => none
 | k + 1, x0, x1, x8, x39, x142000, x142001 => if x39 = true then (some (x0, 20)) else (if x8 = 16 then (some (x0, 171)) else ((api_Version_49.f x0).bind fun t147 => ((chain_copied.f x142000 x142001).bind fun bt150 => (if t147.length < 2513169434916 then (some ((t147 ++ [(⟨x1, (⟨bt150.1, bt150.2⟩ : S37)⟩ : S74)]), 0)) else (none)))))
end
def chain_Put.f (k : Nat) (l0 : List (S74)) (a1 : Int) (l2_0 : List Int) (l2_1 : List Int) : Option ((List (S74)) × Int) := if a1 < 0 then (chain_Put.j0 k l0 a1 (l0.length : Int) true l2_0 l2_1) else ((chain_Check.f k l0).bind fun t142 => (if t142 = true then (if (l0.length : Int) > 0 then (if 0 ≤ (wrap64 ((l0.length : Int) - 1)) then (if (wrap64 ((l0.length : Int) - 1)) < (l0.length : Int) then (chain_Put.j0 k l0 a1 (l0.length : Int) (decide (((rd_T74 l0 (wrap64 ((l0.length : Int) - 1))).f0) ≥ a1)) l2_0 l2_1) else (none)) else (none)) else (chain_Put.j0 k l0 a1 (l0.length : Int) false l2_0 l2_1)) else (chain_Put.j0 k l0 a1 (l0.length : Int) true l2_0 l2_1)))
theorem chain_Put.mono_l : ∀ k, (∀ y0 y1 y2 y3 y4 y5, LeO (chain_Put.j0 k y0 y1 y2 y3 y4 y5) (chain_Put.j0 (k + 1) y0 y1 y2 y3 y4 y5)) ∧ (∀ y0 y1 y2 y3 y4 y5, LeO (chain_Put.j1 k y0 y1 y2 y3 y4 y5) (chain_Put.j1 (k + 1) y0 y1 y2 y3 y4 y5))
 | 0 => ⟨fun _ _ _ _ _ _ r h => by simp [chain_Put.j0] at h, fun _ _ _ _ _ _ r h => by simp [chain_Put.j1] at h⟩
 | k + 1 => by
  obtain ⟨ih0, ih1⟩ := chain_Put.mono_l k
  refine ⟨?_, ?_⟩
  ·intro y0 y1 y2 y3 y4 y5
   unfold chain_Put.j0
   repeat' first
    | (with_reducible first | exact ih0 _ _ _ _ _ _ | exact ih1 _ _ _ _ _ _ | exact chain_Check.mono _ _ | exact slices_Equal_int_int.mono _ _ _ | exact tensor_Check.mono _ _ _ | exact LeO.refl _ | exact LeO.none _ | refine LeO.ite ?_ ?_ | refine LeO.bind ?_ (fun _ => ?_))
    | first | exact ih0 _ _ _ _ _ _ | exact ih1 _ _ _ _ _ _ | exact chain_Check.mono _ _ | exact slices_Equal_int_int.mono _ _ _ | exact tensor_Check.mono _ _ _ | exact LeO.none _ | refine LeO.ite ?_ ?_ | refine LeO.bind ?_ (fun _ => ?_)
  ·intro y0 y1 y2 y3 y4 y5
   unfold chain_Put.j1
   repeat' first
    | (with_reducible first | exact ih0 _ _ _ _ _ _ | exact ih1 _ _ _ _ _ _ | exact chain_Check.mono _ _ | exact slices_Equal_int_int.mono _ _ _ | exact tensor_Check.mono _ _ _ | exact LeO.refl _ | exact LeO.none _ | refine LeO.ite ?_ ?_ | refine LeO.bind ?_ (fun _ => ?_))
    | first | exact ih0 _ _ _ _ _ _ | exact ih1 _ _ _ _ _ _ | exact chain_Check.mono _ _ | exact slices_Equal_int_int.mono _ _ _ | exact tensor_Check.mono _ _ _ | exact LeO.none _ | refine LeO.ite ?_ ?_ | refine LeO.bind ?_ (fun _ => ?_)
theorem chain_Put.mono : ∀ a0 a1 a2 a3 k, LeO (chain_Put.f k a0 a1 a2 a3) (chain_Put.f (k + 1) a0 a1 a2 a3) := by
 intro a0 a1 a2 a3 k
 obtain ⟨ih0, ih1⟩ := chain_Put.mono_l k
 unfold chain_Put.f
 repeat' first
  | (with_reducible first | exact ih0 _ _ _ _ _ _ | exact ih1 _ _ _ _ _ _ | exact chain_Check.mono _ _ | exact slices_Equal_int_int.mono _ _ _ | exact tensor_Check.mono _ _ _ | exact LeO.refl _ | exact LeO.none _ | refine LeO.ite ?_ ?_ | refine LeO.bind ?_ (fun _ => ?_))
  | first | exact ih0 _ _ _ _ _ _ | exact ih1 _ _ _ _ _ _ | exact chain_Check.mono _ _ | exact slices_Equal_int_int.mono _ _ _ | exact tensor_Check.mono _ _ _ | exact LeO.none _ | refine LeO.ite ?_ ?_ | refine LeO.bind ?_ (fun _ => ?_)
def chain_Put.T6 : Bool × List (List Nat × List Nat) := (true, [([], []), ([0], [0]), ([1], [1]), ([2], [2]), ([3, 2], [2, 3]), ([4, 2], [2, 4]), ([5, 2], [2, 5]), ([6, 2], [2, 6]), ([2], [2]), ([8, 2], [2, 8]), ([7, 9, 2, 2], [2, 7, 9]), ([10, 2], [2, 10]), ([2, 11], [2, 11]), ([12, 10], [12])])
def chain_Put.B6 : List Nat := [0, 1, 3, 7, 15, 31, 63, 127, 7, 263, 1023, 2047, 4095, 8191]
theorem chain_Put.tab6 : rtab .any (opsOf Try.f34 6) = chain_Put.T6 := by kernel_rfl
theorem chain_Put.bits6 : waitsOk chain_Put.T6.2 chain_Put.B6 = true := by kernel_rfl
def chain_Put.T10 : Bool × List (List Nat × List Nat) := (true, [([], []), ([0], [0]), ([], []), ([], []), ([3, 1], [3]), ([2, 4], [2, 4]), ([5], [5]), ([1, 6, 4], [1, 6]), ([7, 7, 0, 1, 2, 3, 4, 5, 6, 7], [7]), ([8, 0, 1, 2, 3, 4, 5, 6, 7, 8], [])])
def chain_Put.B10 : List Nat := [0, 1, 0, 0, 11, 31, 63, 127, 255, 511]
theorem chain_Put.tab10 : rtab .any (opsOf Try.f34 10) = chain_Put.T10 := by kernel_rfl
theorem chain_Put.bits10 : waitsOk chain_Put.T10.2 chain_Put.B10 = true := by kernel_rfl
set_option maxHeartbeats 8000000 in
set_option maxRecDepth 100000 in
theorem chain_Put.calls (k : Nat) (P0_ : Nat → Prop) (A0 : Option Addr) (c0 : Nat) (l0 : List (S74)) (a1 : Int) (A2_0 : Option Addr) (c2_0 : Nat) (l2_0 : List Int) (A2_1 : Option Addr) (c2_1 : Nat) (l2_1 : List Int) (r1 : List (S74)) (r2 : Int) (w : World) (hs0 : Kd.V k74 74 w w.heap.size (fun k_ => P0_ k_) (.slice A0 l0.length c0) l0) (hr2_0 : Kd.C (Kd.int .i64) w A2_0 l2_0.length l2_0) (hc2_0 : l2_0.length ≤ c2_0) (hr2_1 : Kd.C (Kd.int .i64) w A2_1 l2_1.length l2_1) (hc2_1 : l2_1.length ≤ c2_1) (h : chain_Put.f k l0 a1 l2_0 l2_1 = some (r1, r2)) :
  Calls Try.prog 34 #[.slice A0 l0.length c0, .int .i64 a1, .agg #[.slice A2_0 l2_0.length c2_0, .slice A2_1 l2_1.length c2_1]] w fun e w' => ∃ v0_ : Value, e = .returned (.tuple #[v0_, .int .i64 r2]) ∧ Kd.V k74 74 w' w.heap.size (fun k_ => (P0_ k_ ∨ w.heap.size ≤ k_)) v0_ r1 ∧ Below w.heap.size w w' := by
 have hu37 := Try.underlying37
 have hu74 := Try.underlying74
 have HO0 := Aside0.mk (show Kd.V k74 74 w w.heap.size (fun k_ => (P0_ k_ ∨ w.heap.size ≤ k_)) (.slice A0 l0.length c0) l0 from Kd.V_mono hs0 (fun k_ hk => .inl hk))
 have HR2_0 := Aside0.mk hr2_0
 have HC2_0 := Aside0.mk hc2_0
 clear hr2_0 hc2_0
 have HR2_1 := Aside0.mk hr2_1
 have HC2_1 := Aside0.mk hc2_1
 clear hr2_1 hc2_1
 have HB := Aside0.mk (Below.refl w.heap.size w)
 have H : (if a1 < 0 then (chain_Put.j0 k l0 a1 (l0.length : Int) true l2_0 l2_1) else ((chain_Check.f k l0).bind fun t142 => (if t142 = true then (if (l0.length : Int) > 0 then (if 0 ≤ (wrap64 ((l0.length : Int) - 1)) then (if (wrap64 ((l0.length : Int) - 1)) < (l0.length : Int) then (chain_Put.j0 k l0 a1 (l0.length : Int) (decide (((rd_T74 l0 (wrap64 ((l0.length : Int) - 1))).f0) ≥ a1)) l2_0 l2_1) else (none)) else (none)) else (chain_Put.j0 k l0 a1 (l0.length : Int) false l2_0 l2_1)) else (chain_Put.j0 k l0 a1 (l0.length : Int) true l2_0 l2_1)))) = some (r1, r2) := h
 clear h
 have HC4 := Aside0.mk H
 clear H
 go_enter Try.func34, Try.ntmps34
 go_upto_region 2 with (first | ((with_reducible refine gate_dst (N := 5) rfl ?_); refine box_event ?hg (N := 5) ?hd (cs := #[.slice A2_0 l2_0.length c2_0, .slice A2_1 l2_1.length c2_1]) (t := 37) ?hr ?_; (case hd => rfl); (case hg => rfl); (case hr => first | (go_simp; done) | (go_simp; rfl)); intro gb141 hg w5 hbox hb; have BK141 := Aside0.mk (hbox); have GW141 := Aside0.mk ((by rw [hg]; exact (below_size (bq0_ HB.out)) : w.heap.size ≤ gb141)); have GE141 := Aside0.mk ((by rw [hg]; exact (below_size (bq0_ HB.out)) : w.heap.size ≤ gb141)); replace HO0 := Aside0.mk (Kd.V_below (Kd.V_elderB (mvV_ HO0.out) gb141 (Nat.le_of_eq hg.symm)) hb); replace HB := Aside0.mk (below_step (bq0_ HB.out) hb); clear hb hbox hg))
 (try simp only [Act.put, sA_, sB_, sC_])
 go_cut [11] (fun v11 wc => ∃ (kq : Nat) (x11_3 : Bool), v11 = .bool x11_3 ∧ Aside0 (chain_Put.j0 kq l0 a1 (l0.length : Int) x11_3 l2_0 l2_1 = some (r1, r2)) ∧ Aside0 (kq ≤ k) ∧ Aside0 (Kd.V k74 74 wc w.heap.size (fun k_ => (P0_ k_ ∨ w.heap.size ≤ k_) ∧ k_ ≠ gb141) (.slice A0 l0.length c0) l0) ∧ Aside0 (wc.heap[gb141]? = some (.cells #[(.slice A2_0 l2_0.length c2_0), (.slice A2_1 l2_1.length c2_1)] 37 (0, 0))) ∧ Aside0 (Below w.heap.size w wc))
 case first =>
  have H := HC4.out
  clear HC4
  by_cases c6 : a1 < 0
  ·rw [if_pos c6] at H
   have c6b0 : decide (a1 < 0) = true := decide_eq_true c6
   clear c6
   (first | rw [c6b0] | (simp only [i64_w, i32_w]; rw [c6b0]) | rw [c6b1] | skip)
   have H' := Aside0.mk H
   clear H
   go_wp2
   go_meet
   case rel => exact ⟨_, (true), (by first | rfl | (simp; done) | (simp [*]; done)), H', ⟨by first | omega | exact Nat.le_refl _⟩, ⟨mvV_ HO0.out⟩, ⟨by (with_reducible repeat (first | refine blk_drewN ?_ _ | refine blk_drew ?_ | refine blk_alloc ?_ _)); exact BK141.out⟩, ⟨bq1_ HB.out GE141.out⟩⟩
  ·rw [if_neg c6] at H
   have c6b0 : decide (a1 < 0) = false := decide_eq_false c6
   clear c6
   (first | rw [c6b0] | (simp only [i64_w, i32_w]; rw [c6b0]) | rw [c6b1] | skip)
   replace H := Option.bind_eq_some_iff.mp H
   obtain ⟨t142, A70, H⟩ := H
   replace H : (if t142 = true then (if (l0.length : Int) > 0 then (if 0 ≤ (wrap64 ((l0.length : Int) - 1)) then (if (wrap64 ((l0.length : Int) - 1)) < (l0.length : Int) then (chain_Put.j0 k l0 a1 (l0.length : Int) (decide (((rd_T74 l0 (wrap64 ((l0.length : Int) - 1))).f0) ≥ a1)) l2_0 l2_1) else (none)) else (none)) else (chain_Put.j0 k l0 a1 (l0.length : Int) false l2_0 l2_1)) else (chain_Put.j0 k l0 a1 (l0.length : Int) true l2_0 l2_1)) = some (r1, r2) := H
   have A7 := Aside0.mk A70
   clear A70
   by_cases c8 : t142 = true
   ·subst c8
    have H1 : (if (l0.length : Int) > 0 then (if 0 ≤ (wrap64 ((l0.length : Int) - 1)) then (if (wrap64 ((l0.length : Int) - 1)) < (l0.length : Int) then (chain_Put.j0 k l0 a1 (l0.length : Int) (decide (((rd_T74 l0 (wrap64 ((l0.length : Int) - 1))).f0) ≥ a1)) l2_0 l2_1) else (none)) else (none)) else (chain_Put.j0 k l0 a1 (l0.length : Int) false l2_0 l2_1)) = some (r1, r2) := by rw [if_pos rfl] at H; exact H
    clear H
    have H := H1
    clear H1
    by_cases c9 : (l0.length : Int) > 0
    ·rw [if_pos c9] at H
     have c9b0 : decide (0 < (l0.length : Int)) = true := decide_eq_true c9
     have c9b1 : decide (0 < l0.length) = true := decide_eq_true (by omega)
     clear c9
     obtain ⟨ji10, hji10⟩ : ∃ j_ : Int, (wrap64 ((l0.length : Int) - 1)) = j_ := ⟨_, rfl⟩
     replace H : (if 0 ≤ (ji10) then (if (ji10) < (l0.length : Int) then (chain_Put.j0 k l0 a1 (l0.length : Int) (decide (((rd_T74 l0 (ji10)).f0) ≥ a1)) l2_0 l2_1) else (none)) else (none)) = some (r1, r2) := by first | (rw [hji10] at H; exact H) | (simp only [hji10] at H ⊢; exact H)
     (try rw [hji10] at A7)
     have hji10w : (IntKind.i64.wrap ((l0.length : Int) - 1)) = ji10 := (i64_w _).trans hji10
     by_cases c11 : 0 ≤ (ji10)
     ·rw [if_pos c11] at H
      have c11b0 : decide (0 ≤ (ji10)) = true := decide_eq_true c11
      clear c11
      by_cases c12 : (ji10) < (l0.length : Int)
      ·rw [if_pos c12] at H
       have c12b0 : decide ((ji10) < (l0.length : Int)) = true := decide_eq_true c12
       clear c12
       have H' := Aside0.mk H
       clear H
       go_wp2_with (first | (go_at_call 26; (with_reducible refine (chain_Check.calls k _ _ l0 true _ ?side1 ?side2 A7.out).mono ?_); (case side1 => exact mvC_ ((Kd.V_reads' HO0.out).2.2)); (case side2 => exact (Kd.V_reads' HO0.out).2.1); rintro e w13 ⟨rfl, hb⟩; replace HO0 := mbV_ HO0.out hb; replace BK141 := mvB_ BK141.out hb; replace HB := Aside0.mk (below_step (bq1_ HB.out GE141.out) hb); (try clear hb); have p143 : 0 ≤ ((ji10) : Int) := od_; have q143 : (ji10) < (l0.length : Int) := od_; obtain ⟨ad143, A143_1, c143_1, A143_2, c143_2, e143, hx143_0, hx143_1, hx143_2, hl143_1, hi143_1, hl143_2, hi143_2⟩ := at_T74 (Kd.V_reads' HO0.out).2.2 (ji10) p143 q143; cases e143; obtain ⟨ce143, hce143, hMe143, hcc143⟩ := Kd.V_get HO0.out z74 (ji10) p143 (by first | exact q143 | exact od_ | (have e_ := (Kd.V_reads' HO0.out).1; omega)); obtain ⟨ua143_1, uc143_1, ua143_2, uc143_2, rfl, ul143_1, ge143_1, ul143_2, ge143_2⟩ := k74_openF hMe143; have hv143_1 := hcc143 1 _ rfl; rw [add_field _ _ 1 (by omega)] at hv143_1; replace hv143_1 := Option.some.inj (hv143_1.symm.trans hx143_1); injection hv143_1 with hva_ hvn_ hvc_; rw [hva_] at ge143_1; rw [hvc_] at ul143_1; have HL143_1 := Aside0.mk (show Kd.V (Kd.int .i64) 3 _ w.heap.size _ _ ((rd_T74 l0 (ji10)).f1.f0) from Kd.V_mk ul143_1 ge143_1); clear hva_ hvn_ hvc_ ge143_1 ul143_1; have hv143_2 := hcc143 2 _ rfl; rw [add_field _ _ 2 (by omega)] at hv143_2; replace hv143_2 := Option.some.inj (hv143_2.symm.trans hx143_2); injection hv143_2 with hva_ hvn_ hvc_; rw [hva_] at ge143_2; rw [hvc_] at ul143_2; have HL143_2 := Aside0.mk (show Kd.V (Kd.int .i64) 3 _ w.heap.size _ _ ((rd_T74 l0 (ji10)).f1.f1) from Kd.V_mk ul143_2 ge143_2); clear hva_ hvn_ hvc_ ge143_2 ul143_2; clear hcc143 hce143; have HR143_1 := Aside0.mk hi143_1; have HC143_1 := Aside0.mk hl143_1; clear hi143_1 hl143_1; have HR143_2 := Aside0.mk hi143_2; have HC143_2 := Aside0.mk hl143_2; clear hi143_2 hl143_2; replace p143 := eq_true p143; replace q143 := eq_true q143))
       go_meet
       case rel => exact ⟨_, (decide (((rd_T74 l0 (ji10)).f0) ≥ a1)), (by first | rfl | (simp; done) | (simp only [← hji10] <;> (first | rfl | simp)) | (simp [*]; done)), H', ⟨by first | omega | exact Nat.le_refl _⟩, ⟨mvV_ HO0.out⟩, ⟨by (with_reducible repeat (first | refine blk_drewN ?_ _ | refine blk_drew ?_ | refine blk_alloc ?_ _)); exact BK141.out⟩, ⟨bq1_ HB.out GE141.out⟩⟩
      ·rw [if_neg c12] at H
       exact absurd H (by simp)
     ·rw [if_neg c11] at H
      exact absurd H (by simp)
    ·rw [if_neg c9] at H
     have c9b0 : decide (0 < (l0.length : Int)) = false := decide_eq_false c9
     have c9b1 : decide (0 < l0.length) = false := decide_eq_false (by omega)
     clear c9
     have H' := Aside0.mk H
     clear H
     go_wp2_with (first | (go_at_call 26; (with_reducible refine (chain_Check.calls k _ _ l0 true _ ?side1 ?side2 A7.out).mono ?_); (case side1 => exact mvC_ ((Kd.V_reads' HO0.out).2.2)); (case side2 => exact (Kd.V_reads' HO0.out).2.1); rintro e w14 ⟨rfl, hb⟩; replace HO0 := mbV_ HO0.out hb; replace BK141 := mvB_ BK141.out hb; replace HB := Aside0.mk (below_step (bq1_ HB.out GE141.out) hb); (try clear hb)))
     go_meet
     case rel => exact ⟨_, (false), (by first | rfl | (simp; done) | (simp [*]; done)), H', ⟨by first | omega | exact Nat.le_refl _⟩, ⟨mvV_ HO0.out⟩, ⟨by (with_reducible repeat (first | refine blk_drewN ?_ _ | refine blk_drew ?_ | refine blk_alloc ?_ _)); exact BK141.out⟩, ⟨bq1_ HB.out GE141.out⟩⟩
   ·replace c8 := Bool.eq_false_iff.mpr c8
    subst c8
    have H1 : (chain_Put.j0 k l0 a1 (l0.length : Int) true l2_0 l2_1) = some (r1, r2) := by rw [if_neg (show ¬ (false = true) by decide)] at H; exact H
    clear H
    have H := H1
    clear H1
    have H' := Aside0.mk H
    clear H
    go_wp2_with (first | (go_at_call 26; (with_reducible refine (chain_Check.calls k _ _ l0 false _ ?side1 ?side2 A7.out).mono ?_); (case side1 => exact mvC_ ((Kd.V_reads' HO0.out).2.2)); (case side2 => exact (Kd.V_reads' HO0.out).2.1); rintro e w15 ⟨rfl, hb⟩; replace HO0 := mbV_ HO0.out hb; replace BK141 := mvB_ BK141.out hb; replace HB := Aside0.mk (below_step (bq1_ HB.out GE141.out) hb); (try clear hb)))
    go_meet
    case rel => exact ⟨_, (true), (by first | rfl | (simp; done) | (simp [*]; done)), H', ⟨by first | omega | exact Nat.le_refl _⟩, ⟨mvV_ HO0.out⟩, ⟨by (with_reducible repeat (first | refine blk_drewN ?_ _ | refine blk_drew ?_ | refine blk_alloc ?_ _)); exact BK141.out⟩, ⟨bq1_ HB.out GE141.out⟩⟩
 case rest =>
  clear HC4
  try clear c1
  try clear p1
  try clear q1
  try clear hx1
  try clear c2
  try clear p2
  try clear c3
  try clear c6
  try clear c6b0
  try clear c6b1
  try clear p6
  try clear c8
  try clear c9
  try clear c9b0
  try clear c9b1
  try clear c11
  try clear c11b0
  try clear c12
  try clear c12b0
  try clear c14
  try clear p14
  try clear q14
  try clear hx14
  try clear hx143_0
  try clear hx143_1
  try clear hx143_2
  try clear p143
  try clear q143
  obtain ⟨kq, x11_3, rfl, HA, HJ3, HO_0, BK141, HB⟩ := hcut
  cases kq with
  | zero => exact absurd HA.out (by simp [chain_Put.j0])
  | succ kj3 =>
   have H := HA.out
   clear HA
   simp only [chain_Put.j0] at H
   by_cases c16 : x11_3 = true
   ·subst c16
    have H1 : (some (l0, 170)) = some (r1, r2) := by rw [if_pos rfl] at H; exact H
    clear H
    have H := H1
    clear H1
    simp only [Option.some.injEq, Prod.mk.injEq] at H
    obtain ⟨rfl, rfl⟩ := H
    go_wp2
    go_ret2
    exact ⟨_, by first | rfl | (simp <;> rfl) | (simp [*] <;> rfl), by (with_reducible repeat (first | apply Kd.V_alloc | apply Kd.V_drewN | apply Kd.V_drew)); exact Kd.V_mono HO_0.out (fun _ hk => hk.1), bq1_ HB.out GE141.out⟩
   ·replace c16 := Bool.eq_false_iff.mpr c16
    subst c16
    have H1 : ((tensor_Check.f kj3 l2_0 l2_1).bind fun t144 => (if t144 = true then (if (l0.length : Int) > 0 then (if 0 < (l0.length : Int) then ((slices_Equal_int_int.f kj3 ((rd_T74 l0 0).f1.f0) l2_0).bind fun t146 => (chain_Put.j1 kj3 l0 a1 (l0.length : Int) (!t146) l2_0 l2_1)) else (none)) else (chain_Put.j1 kj3 l0 a1 (l0.length : Int) false l2_0 l2_1)) else (some (l0, 30)))) = some (r1, r2) := by rw [if_neg (show ¬ (false = true) by decide)] at H; exact H
    clear H
    have H := H1
    clear H1
    replace H := Option.bind_eq_some_iff.mp H
    obtain ⟨t144, A170, H⟩ := H
    replace H : (if t144 = true then (if (l0.length : Int) > 0 then (if 0 < (l0.length : Int) then ((slices_Equal_int_int.f kj3 ((rd_T74 l0 0).f1.f0) l2_0).bind fun t146 => (chain_Put.j1 kj3 l0 a1 (l0.length : Int) (!t146) l2_0 l2_1)) else (none)) else (chain_Put.j1 kj3 l0 a1 (l0.length : Int) false l2_0 l2_1)) else (some (l0, 30))) = some (r1, r2) := H
    have A17 := Aside0.mk A170
    clear A170
    by_cases c18 : t144 = true
    ·subst c18
     have H1 : (if (l0.length : Int) > 0 then (if 0 < (l0.length : Int) then ((slices_Equal_int_int.f kj3 ((rd_T74 l0 0).f1.f0) l2_0).bind fun t146 => (chain_Put.j1 kj3 l0 a1 (l0.length : Int) (!t146) l2_0 l2_1)) else (none)) else (chain_Put.j1 kj3 l0 a1 (l0.length : Int) false l2_0 l2_1)) = some (r1, r2) := by rw [if_pos rfl] at H; exact H
     clear H
     have H := H1
     clear H1
     have HC19 := Aside0.mk H
     clear H
     have hcz20_0 := cz0_ BK141.out
     have hcz20_1 := cz1_ BK141.out
     have hfz20_0 := blk_frozen BK141.out 0
     have hfz20_1 := blk_frozen BK141.out 1
     go_upto_region 6 with (first | ((with_reducible refine gate_callee (f := 40) rfl ?_); refine gL_ (some 36) Try.func40 #[.agg #[.slice A2_0 l2_0.length c2_0, .slice A2_1 l2_1.length c2_1]] ?_; (with_reducible refine (tensor_Check.calls kj3 _ _ l2_0 _ _ l2_1 true _ ?side1 ?side2 ?side3 ?side4 A17.out).mono ?_); (case side1 => exact mvC_ ((Kd.C_below HR2_0.out HB.out))); (case side2 => exact HC2_0.out); (case side3 => exact mvC_ ((Kd.C_below HR2_1.out HB.out))); (case side4 => exact HC2_1.out); rintro e w21 ⟨rfl, hb⟩; refine ⟨_, rfl, ?_⟩; replace HO_0 := mbV_ HO_0.out hb; replace BK141 := mvB_ BK141.out hb; replace HB := Aside0.mk (below_step (bq1_ HB.out GE141.out) hb); (try clear hb)))
     (try simp only [Act.put, sA_, sB_, sC_])
     go_cut [39] (fun v39 wc => ∃ (kq : Nat) (x39_18 : Bool), v39 = .bool x39_18 ∧ Aside0 (chain_Put.j1 kq l0 a1 (l0.length : Int) x39_18 l2_0 l2_1 = some (r1, r2)) ∧ Aside0 (kq ≤ kj3) ∧ Aside0 (Kd.V k74 74 wc w.heap.size (fun k_ => (P0_ k_ ∨ w.heap.size ≤ k_) ∧ k_ ≠ gb141) (.slice A0 l0.length c0) l0) ∧ Aside0 (wc.heap[gb141]? = some (.cells #[(.slice A2_0 l2_0.length c2_0), (.slice A2_1 l2_1.length c2_1)] 37 (0, 0))) ∧ Aside0 (Below w.heap.size w wc))
     case first =>
      have H := HC19.out
      clear HC19
      by_cases c22 : (l0.length : Int) > 0
      ·rw [if_pos c22] at H
       have c22b0 : decide (0 < (l0.length : Int)) = true := decide_eq_true c22
       have c22b1 : decide (0 < l0.length) = true := decide_eq_true (by omega)
       clear c22
       (first | rw [c22b0] | (simp only [i64_w, i32_w]; rw [c22b0]) | rw [c22b1] | skip)
       by_cases c23 : 0 < (l0.length : Int)
       ·rw [if_pos c23] at H
        have c23b0 : decide (0 < (l0.length : Int)) = true := decide_eq_true c23
        have c23b1 : decide (0 < l0.length) = true := decide_eq_true (by omega)
        clear c23
        replace H := Option.bind_eq_some_iff.mp H
        obtain ⟨t146, A240, H⟩ := H
        replace H : (chain_Put.j1 kj3 l0 a1 (l0.length : Int) (!t146) l2_0 l2_1) = some (r1, r2) := H
        have A24 := Aside0.mk A240
        clear A240
        have H' := Aside0.mk H
        clear H
        try go_wp2
        replace HO_0 := Aside0.mk (Kd.V_drew HO_0.out)
        replace BK141 := Aside0.mk (blk_drew BK141.out)
        replace HB := Aside0.mk (below_drew1 HB.out)
        have p145 : 0 ≤ (0 : Int) := (by omega)
        have q145 : 0 < (l0.length : Int) := od_
        obtain ⟨ad145, A145_1, c145_1, A145_2, c145_2, e145, hx145_0, hx145_1, hx145_2, hl145_1, hi145_1, hl145_2, hi145_2⟩ := at_T74 (Kd.V_reads' HO_0.out).2.2 0 p145 q145
        cases e145
        obtain ⟨ce145, hce145, hMe145, hcc145⟩ := Kd.V_get HO_0.out z74 0 p145 (by first | exact q145 | exact od_ | (have e_ := (Kd.V_reads' HO_0.out).1; omega))
        obtain ⟨ua145_1, uc145_1, ua145_2, uc145_2, rfl, ul145_1, ge145_1, ul145_2, ge145_2⟩ := k74_openF hMe145
        have hv145_1 := hcc145 1 _ rfl
        rw [add_field _ _ 1 (by omega)] at hv145_1
        replace hv145_1 := Option.some.inj (hv145_1.symm.trans hx145_1)
        injection hv145_1 with hva_ hvn_ hvc_
        rw [hva_] at ge145_1
        rw [hvc_] at ul145_1
        have HL145_1 := Aside0.mk (show Kd.V (Kd.int .i64) 3 _ w.heap.size _ _ ((rd_T74 l0 0).f1.f0) from Kd.V_mk ul145_1 ge145_1)
        clear hva_ hvn_ hvc_ ge145_1 ul145_1
        have hv145_2 := hcc145 2 _ rfl
        rw [add_field _ _ 2 (by omega)] at hv145_2
        replace hv145_2 := Option.some.inj (hv145_2.symm.trans hx145_2)
        injection hv145_2 with hva_ hvn_ hvc_
        rw [hva_] at ge145_2
        rw [hvc_] at ul145_2
        have HL145_2 := Aside0.mk (show Kd.V (Kd.int .i64) 3 _ w.heap.size _ _ ((rd_T74 l0 0).f1.f1) from Kd.V_mk ul145_2 ge145_2)
        clear hva_ hvn_ hvc_ ge145_2 ul145_2 hcc145 hce145
        have qi145 : (0 < l0.length) = True := eq_true (by omega)
        (try rw [show ((0 : Int)).toNat = 0 from rfl] at hx145_0)
        (try rw [show 0 * 3 = 0 from rfl] at hx145_0)
        (try rw [Addr.add_zero'] at hx145_0)
        (try rw [show ((0 : Int)).toNat = 0 from rfl] at hx145_1)
        (try rw [show 0 * 3 = 0 from rfl] at hx145_1)
        (try rw [Addr.add_zero'] at hx145_1)
        (try rw [show ((0 : Int)).toNat = 0 from rfl] at hx145_2)
        (try rw [show 0 * 3 = 0 from rfl] at hx145_2)
        (try rw [Addr.add_zero'] at hx145_2)
        have HR145_1 := Aside0.mk hi145_1
        have HC145_1 := Aside0.mk hl145_1
        clear hi145_1 hl145_1
        have HR145_2 := Aside0.mk hi145_2
        have HC145_2 := Aside0.mk hl145_2
        clear hi145_2 hl145_2
        replace p145 := eq_true p145
        replace q145 := eq_true q145
        refine start_ (n := 14) (S := fun w' => w'.cell? ⟨gb141, 0, none⟩ = some (.slice A2_0 l2_0.length c2_0) ∧ w'.cell? ⟨gb141, 1, none⟩ = some (.slice A2_1 l2_1.length c2_1) ∧ w'.cell? ad145 = some (.int .i64 ((rd_T74 l0 0).f0)) ∧ w'.cell? ⟨ad145.block, ad145.off + 1, none⟩ = some (.slice A145_1 ((rd_T74 l0 0).f1.f0).length c145_1) ∧ w'.cell? ⟨ad145.block, ad145.off + 2, none⟩ = some (.slice A145_2 ((rd_T74 l0 0).f1.f1).length c145_2)) (ds := []) L34_0 (by kernel_rfl) rfl rfl ⟨(blk_cell BK141.out 0).trans rfl, (blk_cell BK141.out 1).trans rfl, hx145_0, hx145_1, hx145_2⟩ (fun hHeld => ?_); refine with_tabW chain_Put.tab6 chain_Put.bits6 (fun HT_ HW_ => ?_)
        generalize w21.drew = w25 at HO_0 BK141 HB HL145_1 HL145_2 HR145_1 HR145_2 hx145_0 hx145_1 hx145_2 hHeld ⊢
        refine pu_ 0 (some 40) L34_1 HT_ ?_
        refine pu_ 1 (some 41) L34_2 HT_ ?_
        refine pu_ 2 (some 42) L34_3 HT_ ?_
        refine pu_ 3 (some 43) L34_4 HT_ ?_
        refine pu_ 4 (some 44) L34_5 HT_ ?_
        refine pu_ 5 (some 45) L34_6 HT_ ?_
        refine pu_ 6 (some 46) L34_7 HT_ ?_
        refine pu_ 8 (some 48) L34_8 HT_ ?_
        refine ta_ 7 (some 47) L34_9 HT_ HW_ hHeld ?_ (hy := by rintro w' ⟨s0, s1, s2, s3, s4⟩; go_simp; with_reducible rfl)
        refine ta_ 9 (some 49) L34_10 HT_ HW_ hHeld ?_ (hy := by rintro w' ⟨s0, s1, s2, s3, s4⟩; go_simp; with_reducible rfl)
        refine one_ (i := 10) (N := some 50) L34_11 rfl rfl (one_of HT_.out (by kernel_rfl)) (by decide) (fun K hK => ?_)
        refine goes_ Try.func43 (by kernel_rfl) rfl #[.slice A145_1 ((rd_T74 l0 0).f1.f0).length c145_1, .slice A2_0 l2_0.length c2_0] (by rfl) rfl rfl (by (try simp only [List.map_toArray, List.map_cons, List.map_nil]); first | done | rfl | (simp only [List.length_drop, List.length_take]; rfl)) ?_
        with_reducible refine (slices_Equal_int_int.calls kj3 _ _ ((rd_T74 l0 0).f1.f0) _ _ l2_0 t146 _ ?side1 ?side2 ?side3 ?side4 A24.out).mono ?_
        (case side1 => repeat (first | exact (by repeat (first | (with_reducible exact HR145_1.out) | (with_reducible refine Kd.C_alloc ?_ _) | (with_reducible refine Kd.C_drewN ?_ _) | (with_reducible refine Kd.C_drew ?_) | exact HR145_1.out)) | (with_reducible refine Kd.C_alloc ?_ _) | (with_reducible refine Kd.C_drewN ?_ _) | (with_reducible refine Kd.C_drew ?_)))
        (case side2 => exact HC145_1.out)
        (case side3 => exact mvC_ ((Kd.C_below HR2_0.out HB.out)))
        (case side4 => exact HC2_0.out)
        rintro e w' ⟨rfl, ⟨nd, rfl⟩⟩
        refine ⟨_, rfl, ?_⟩
        refine hK.out _ _ ⟨(blk_cell BK141.out 0).trans rfl, (blk_cell BK141.out 1).trans rfl, hHeld.2.2.1, hHeld.2.2.2.1, hHeld.2.2.2.2⟩ (fun hHeld => ?_)
        clear hK K
        refine norm_ (a' := ?_) ?_ ?_
        rotate_left
        ·show Act.put _ (some 50) _ = _
         simp only [Act.put, sA_, sB_, sC_, i64_w, i32_w]
         rfl
        refine pu_ 11 (some 51) L34_12 HT_ ?_
        refine pu_ 12 (some 52) L34_13 HT_ ?_
        refine pu_ 13 (some 39) L34_14 HT_ ?_
        refine done_ (done_of HT_.out (by kernel_rfl)) ?_
        try go_wp2
        go_meet
        case rel => exact ⟨_, (!t146), (by first | rfl | (simp; done) | (simp [*]; done)), H', ⟨by have := HJ3.out; first | omega | exact Nat.le_refl _⟩, ⟨mvV_ HO_0.out⟩, ⟨by (with_reducible repeat (first | refine blk_drewN ?_ _ | refine blk_drew ?_ | refine blk_alloc ?_ _)); exact BK141.out⟩, ⟨bq1_ HB.out GE141.out⟩⟩
       ·rw [if_neg c23] at H
        exact absurd H (by simp)
      ·rw [if_neg c22] at H
       have c22b0 : decide (0 < (l0.length : Int)) = false := decide_eq_false c22
       have c22b1 : decide (0 < l0.length) = false := decide_eq_false (by omega)
       clear c22
       (first | rw [c22b0] | (simp only [i64_w, i32_w]; rw [c22b0]) | rw [c22b1] | skip)
       have H' := Aside0.mk H
       clear H
       try go_wp2
       replace HO_0 := Aside0.mk (Kd.V_drew HO_0.out)
       replace BK141 := Aside0.mk (blk_drew BK141.out)
       replace HB := Aside0.mk (below_drew1 HB.out)
       refine start_ (n := 14) (S := fun w' => True) (ds := []) L34_0 (by kernel_rfl) rfl rfl trivial (fun hHeld => ?_); refine with_tabW chain_Put.tab6 chain_Put.bits6 (fun HT_ HW_ => ?_)
       generalize w21.drew = w26 at HO_0 BK141 HB hHeld ⊢
       refine pu_ 0 (some 40) L34_1 HT_ ?_
       refine pu_ 1 (some 41) L34_2 HT_ ?_
       refine pu_ 2 (some 42) L34_3 HT_ ?_
       refine skips_ (fuel := 2) (m := 11) HT_.out (fun _ _ _ _ _ h => h) [(3, 43), (4, 44), (5, 45), (6, 46), (7, 47), (8, 48), (9, 49), (10, 50), (11, 51)] L34_12 rfl (by kernel_rfl) (by kernel_rfl) (a' := ?_) ?_ ?_
       rotate_left
       ·simp only [putU, Act.put, sA_, sB_, sC_]
        rfl
       refine pu_ 12 (some 52) L34_13 HT_ ?_
       refine pu_ 13 (some 39) L34_14 HT_ ?_
       refine done_ (done_of HT_.out (by kernel_rfl)) ?_
       try go_wp2
       go_meet
       case rel => exact ⟨_, (false), (by first | rfl | (simp; done) | (simp [*]; done)), H', ⟨by have := HJ3.out; first | omega | exact Nat.le_refl _⟩, ⟨mvV_ HO_0.out⟩, ⟨by (with_reducible repeat (first | refine blk_drewN ?_ _ | refine blk_drew ?_ | refine blk_alloc ?_ _)); exact BK141.out⟩, ⟨bq1_ HB.out GE141.out⟩⟩
     case rest =>
      clear HC19
      try clear c1
      try clear p1
      try clear q1
      try clear hx1
      try clear qi1
      try clear c2
      try clear p2
      try clear c3
      try clear c4
      try clear c6
      try clear c6b0
      try clear c6b1
      try clear p6
      try clear c8
      try clear c9
      try clear c9b0
      try clear c9b1
      try clear c11
      try clear c11b0
      try clear c12
      try clear c12b0
      try clear c14
      try clear p14
      try clear q14
      try clear hx14
      try clear qi14
      try clear c16
      try clear c18
      try clear c22
      try clear c22b0
      try clear c22b1
      try clear c23
      try clear c23b0
      try clear c23b1
      try clear hcz20_0
      try clear hcz20_1
      try clear hfz20_0
      try clear hfz20_1
      try clear hx143_0
      try clear hx143_1
      try clear hx143_2
      try clear hx145_0
      try clear hx145_1
      try clear hx145_2
      try clear p1
      try clear p14
      try clear p143
      try clear p145
      try clear p2
      try clear p6
      try clear q1
      try clear q14
      try clear q143
      try clear q145
      obtain ⟨kq, x39_18, rfl, HA, HJ18, HO_0, BK141, HB⟩ := hcut
      cases kq with
      | zero => exact absurd HA.out (by simp [chain_Put.j1])
      | succ kj18 =>
       have H := HA.out
       clear HA
       simp only [chain_Put.j1] at H
       by_cases c27 : x39_18 = true
       ·subst c27
        have H1 : (some (l0, 20)) = some (r1, r2) := by rw [if_pos rfl] at H; exact H
        clear H
        have H := H1
        clear H1
        simp only [Option.some.injEq, Prod.mk.injEq] at H
        obtain ⟨rfl, rfl⟩ := H
        go_wp2
        go_ret2
        exact ⟨_, by first | rfl | (simp <;> rfl) | (simp [*] <;> rfl), by (with_reducible repeat (first | apply Kd.V_alloc | apply Kd.V_drewN | apply Kd.V_drew)); exact Kd.V_mono HO_0.out (fun _ hk => hk.1), bq1_ HB.out GE141.out⟩
       ·replace c27 := Bool.eq_false_iff.mpr c27
        subst c27
        have H1 : (if (l0.length : Int) = 16 then (some (l0, 171)) else ((api_Version_49.f l0).bind fun t147 => ((chain_copied.f l2_0 l2_1).bind fun bt150 => (if t147.length < 2513169434916 then (some ((t147 ++ [(⟨a1, (⟨bt150.1, bt150.2⟩ : S37)⟩ : S74)]), 0)) else (none))))) = some (r1, r2) := by rw [if_neg (show ¬ (false = true) by decide)] at H; exact H
        clear H
        have H := H1
        clear H1
        by_cases c28 : (l0.length : Int) = 16
        ·rw [if_pos c28] at H
         obtain ⟨c28b0, c28b1⟩ := eqT_ c28
         clear c28
         simp only [Option.some.injEq, Prod.mk.injEq] at H
         obtain ⟨rfl, rfl⟩ := H
         go_wp2
         go_ret2
         exact ⟨_, by first | rfl | (simp <;> rfl) | (simp [*] <;> rfl), by (with_reducible repeat (first | apply Kd.V_alloc | apply Kd.V_drewN | apply Kd.V_drew)); exact Kd.V_mono HO_0.out (fun _ hk => hk.1), bq1_ HB.out GE141.out⟩
        ·rw [if_neg c28] at H
         have c28b0 : ((l0.length : Int) == 16) = false := beq_eq_false_iff_ne.mpr c28
         have c28b1 : ((l0.length : Int) != 16) = true := bne_iff_ne.mpr c28
         replace H := Option.bind_eq_some_iff.mp H
         obtain ⟨t147, A290, H⟩ := H
         replace H : ((chain_copied.f l2_0 l2_1).bind fun bt150 => (if t147.length < 2513169434916 then (some ((t147 ++ [(⟨a1, (⟨bt150.1, bt150.2⟩ : S37)⟩ : S74)]), 0)) else (none))) = some (r1, r2) := H
         have A29 := Aside0.mk A290
         clear A290
         replace H := Option.bind_eq_some_iff.mp H
         obtain ⟨⟨t150, t153⟩, A300, H⟩ := H
         replace H : (if t147.length < 2513169434916 then (some ((t147 ++ [(⟨a1, (⟨t150, t153⟩ : S37)⟩ : S74)]), 0)) else (none)) = some (r1, r2) := H
         have A30 := Aside0.mk A300
         clear A300
         by_cases c31 : t147.length < 2513169434916
         ·rw [if_pos c31] at H
          have LMc31 := Aside0.mk c31
          clear c31
          obtain ⟨y156, hy156⟩ : ∃ y_ : List (S74), y_ = (t147 ++ [(⟨a1, (⟨t150, t153⟩ : S37)⟩ : S74)]) := ⟨_, rfl⟩
          replace H : (some (y156, 0)) = some (r1, r2) := by first | (rw [hy156]; with_reducible exact H) | (have H2_ := (Option.bind_some _ _).symm.trans H; rw [hy156]; with_reducible exact H2_) | (have H2_ := (Option.bind_some _ _).symm.trans H; with_reducible exact H2_) | with_reducible exact H | (rw [hy156]; exact H) | exact H
          have Ny156 := Aside0.mk hy156
          clear hy156
          simp only [Option.some.injEq, Prod.mk.injEq] at H
          obtain ⟨rfl, rfl⟩ := H
          try go_wp2
          replace HO_0 := Aside0.mk (Kd.V_drew HO_0.out)
          replace BK141 := Aside0.mk (blk_drew BK141.out)
          replace HB := Aside0.mk (below_drew1 HB.out)
          refine start_ (n := 10) (S := fun w' => w'.cell? ⟨gb141, 0, none⟩ = some (.slice A2_0 l2_0.length c2_0) ∧ w'.cell? ⟨gb141, 1, none⟩ = some (.slice A2_1 l2_1.length c2_1)) (ds := []) L34_15 (by kernel_rfl) rfl rfl ⟨(blk_cell BK141.out 0).trans rfl, (blk_cell BK141.out 1).trans rfl⟩ (fun hHeld => ?_); refine with_tabW chain_Put.tab10 chain_Put.bits10 (fun HT_ HW_ => ?_)
          generalize wc.drew = w32 at HO_0 BK141 HB hHeld ⊢
          refine pu_ 0 (some 58) L34_16 HT_ ?_
          refine pu_ 2 (some 60) L34_17 HT_ ?_
          refine ta_ 3 (some 61) L34_18 HT_ HW_ hHeld ?_ (hy := by rintro w' ⟨s0, s1⟩; go_simp; with_reducible rfl)
          refine one_ (i := 1) (N := some 59) L34_19 rfl rfl (one_of HT_.out (by kernel_rfl)) (by decide) (fun K hK => ?_)
          refine goes_ Try.func49 (by kernel_rfl) rfl #[.slice A0 l0.length c0] (by rfl) rfl rfl (by (try simp only [List.map_toArray, List.map_cons, List.map_nil]); first | done | rfl | (simp only [List.length_drop, List.length_take]; rfl)) ?_
          with_reducible refine (api_Version_49.calls (fun k_ => ((P0_ k_ ∨ w.heap.size ≤ k_) ∧ k_ ≠ gb141)) _ _ l0 t147 _ ?side1 A29.out).mono ?_
          (case side1 => (with_reducible repeat (first | apply Kd.V_alloc | apply Kd.V_drewN | apply Kd.V_drew)); first | with_reducible exact HO_0.out | exact HO_0.out | exact Kd.V_mono HO_0.out (fun _ h_ => by simpa only [and_assoc, and_comm, and_left_comm] using h_))
          rintro e w33 ⟨v148, rfl, ho0, hb⟩
          refine ⟨_, rfl, ?_⟩
          have HO149 := Aside0.mk (Kd.N_lower (Kd.N_mono (ok' := fun k_ => (P0_ k_ ∨ w.heap.size ≤ k_) ∧ k_ ≠ gb141) ho0 (fun k_ hk_ => ⟨Or.elim hk_ (fun hs_ => hs_.1) (fun hn_ => (.inr (Nat.le_trans (below_size (bq1_ HB.out GE141.out)) hn_))), Or.elim hk_ (fun hs_ => hs_.2) (fun hn_ => (mvF_ BK141.out hn_))⟩)) (below_size (bq1_ HB.out GE141.out)))
          replace HO_0 := Aside0.mk (Kd.V_elder' (mvV_ HO_0.out) (Kd.N_base ho0) hb)
          replace BK141 := mvB_ BK141.out hb
          replace HB := Aside0.mk (below_step (bq1_ HB.out GE141.out) hb)
          (try clear hb)
          (try clear hb2)
          (try clear hk)
          (try clear hi)
          (try clear ho0)
          refine hK.out _ _ ⟨(blk_cell BK141.out 0).trans rfl, (blk_cell BK141.out 1).trans rfl⟩ (fun hHeld => ?_)
          clear hK K
          refine norm_ (a' := ?_) ?_ ?_
          rotate_left
          ·show Act.put _ (some 59) _ = _
           simp only [Act.put, sA_, sB_, sC_, i64_w, i32_w]
           rfl
          refine one_ (i := 4) (N := some 62) L34_20 rfl rfl (one_of HT_.out (by kernel_rfl)) (by decide) (fun K hK => ?_)
          refine goes_ Try.func50 (by kernel_rfl) rfl #[.agg #[.slice A2_0 l2_0.length c2_0, .slice A2_1 l2_1.length c2_1]] (by rfl) rfl rfl (by (try simp only [List.map_toArray, List.map_cons, List.map_nil]); first | done | rfl | (simp only [List.length_drop, List.length_take]; rfl)) ?_
          with_reducible refine (chain_copied.calls _ _ l2_0 _ _ l2_1 t150 t153 _ ?side1 ?side2 ?side3 ?side4 A30.out).mono ?_
          (case side1 => exact mvC_ ((Kd.C_below HR2_0.out HB.out)))
          (case side2 => exact HC2_0.out)
          (case side3 => exact mvC_ ((Kd.C_below HR2_1.out HB.out)))
          (case side4 => exact HC2_1.out)
          rintro e w34 ⟨v151, v154, rfl, ho0, ho1, hb⟩
          refine ⟨_, rfl, ?_⟩
          have HO152 := Aside0.mk (Kd.R_lower (Kd.R_newM (M := fun k_ => (w.heap.size ≤ k_)) ho0 (below_size (bq1_ HB.out GE141.out)) (fun k_ h_ => h_)) (below_size (bq1_ HB.out GE141.out)))
          have HO155 := Aside0.mk (Kd.R_lower (Kd.R_newM (M := fun k_ => (w.heap.size ≤ k_)) ho1 (below_size (bq1_ HB.out GE141.out)) (fun k_ h_ => h_)) (below_size (bq1_ HB.out GE141.out)))
          replace HO_0 := Aside0.mk (Kd.V_mono (Kd.V_told (Kd.V_told (Kd.V_old (mvV_ HO_0.out) hb) (Kd.R_base ho0)) (Kd.R_base ho1)) (fun _ h_ => h_.1))
          replace HO149 := Aside0.mk (Kd.N_mono (Kd.N_told (Kd.N_told (Kd.N_old (mvN_ HO149.out) hb) (Kd.R_base ho0)) (Kd.R_base ho1)) (fun _ h_ => h_.1))
          replace BK141 := mvB_ BK141.out hb
          replace HB := Aside0.mk (below_step (bq1_ HB.out GE141.out) hb)
          (try clear hb)
          (try clear hb2)
          (try clear hk)
          (try clear hi)
          (try clear ho0)
          (try clear ho1)
          obtain ⟨Ao35, co35, eo35⟩ := Kd.R_slice HO155.out
          (first | subst eo35 | (injection eo35 with f1_ f2_ f3_; have f4_ := f1_.symm; have f5_ := f3_.symm; clear f1_ f2_ f3_; subst f4_; subst f5_))
          obtain ⟨Ao36, co36, eo36⟩ := Kd.R_slice HO152.out
          (first | subst eo36 | (injection eo36 with f1_ f2_ f3_; have f4_ := f1_.symm; have f5_ := f3_.symm; clear f1_ f2_ f3_; subst f4_; subst f5_))
          refine hK.out _ _ ⟨(blk_cell BK141.out 0).trans rfl, (blk_cell BK141.out 1).trans rfl⟩ (fun hHeld => ?_)
          clear hK K
          refine norm_ (a' := ?_) ?_ ?_
          rotate_left
          ·show Act.put _ (some 62) _ = _
           simp only [Act.put, sA_, sB_, sC_, i64_w, i32_w]
           rfl
          refine pu_ 5 (some 63) L34_21 HT_ ?_
          refine one_ (i := 6) (N := some 64) L34_22 rfl rfl (one_of HT_.out (by kernel_rfl)) (by decide) (fun K hK => ?_)
          refine value_ (w1 := ?_) (v := ?_) (by rfl) rfl ?_ ?_
          rotate_left 2
          ·go_simp
           constructor
           ·rfl
           ·rfl
          refine hK.out _ _ ⟨(blk_cell (blk_alloc BK141.out _) 0).trans rfl, (blk_cell (blk_alloc BK141.out _) 1).trans rfl⟩ (fun hHeld => ?_)
          clear hK K
          refine norm_ (a' := ?_) ?_ ?_
          rotate_left
          ·show Act.put _ (some 64) _ = _
           simp only [Act.put, sA_, sB_, sC_, i64_w, i32_w]
           rfl
          refine one_ (i := 7) (N := some 65) L34_23 rfl rfl (one_of HT_.out (by kernel_rfl)) (by decide) (fun K hK => ?_)
          refine Kd.N_append_step k74 (w0 := w) w.heap.size (by rfl) (.tmp 59) (.tmp 64) 54 74 (.agg #[(.int .i64 0), (.slice none 0 0), (.slice none 0 0)]) 56 rfl Try.underlying54 info74 rfl (by decide) (by omega) v148 t147 (⟨a1, (⟨t150, t153⟩ : S37)⟩ : S74) [.int .i64 a1, .slice Ao36 t150.length co36, .slice Ao35 t153.length co35] (fun k_ => (P0_ k_ ∨ w.heap.size ≤ k_) ∧ k_ ≠ gb141) (fun k_ => ((fun k_ => (P0_ k_ ∨ w.heap.size ≤ k_) ∧ k_ ≠ gb141)) k_ ∧ some k_ ≠ (v148 : Value).ownBlock) rfl rfl ?aP (fun _ hk => hk) ?aF ?aO ?aB ?aS ?aL ?_
          (case aP => exact (k74_mkF _ _ (⟨a1, (⟨t150, t153⟩ : S37)⟩ : S74) (Kd.R_reads' (Kd.R_mono (ok' := (fun k_ => ((fun k_ => (P0_ k_ ∨ w.heap.size ≤ k_) ∧ k_ ≠ gb141)) k_ ∧ some k_ ≠ (v148 : Value).ownBlock)) (Kd.R_types (Kd.R_apart' (HO152.out) (Kd.N_typed HO149.out) (by decide)) BK141.out (by decide)) (fun k_ hk => ⟨⟨(.inr (hk.1.1.1)), hk.2⟩, hk.1.2⟩))).2.1 (Kd.R_F (Kd.R_mono (ok' := (fun k_ => ((fun k_ => (P0_ k_ ∨ w.heap.size ≤ k_) ∧ k_ ≠ gb141)) k_ ∧ some k_ ≠ (v148 : Value).ownBlock)) (Kd.R_types (Kd.R_apart' (HO152.out) (Kd.N_typed HO149.out) (by decide)) BK141.out (by decide)) (fun k_ hk => ⟨⟨(.inr (hk.1.1.1)), hk.2⟩, hk.1.2⟩))) (Kd.R_reads' (Kd.R_mono (ok' := (fun k_ => ((fun k_ => (P0_ k_ ∨ w.heap.size ≤ k_) ∧ k_ ≠ gb141)) k_ ∧ some k_ ≠ (v148 : Value).ownBlock)) (Kd.R_types (Kd.R_apart' (HO155.out) (Kd.N_typed HO149.out) (by decide)) BK141.out (by decide)) (fun k_ hk => ⟨⟨(.inr (hk.1.1.1)), hk.2⟩, hk.1.2⟩))).2.1 (Kd.R_F (Kd.R_mono (ok' := (fun k_ => ((fun k_ => (P0_ k_ ∨ w.heap.size ≤ k_) ∧ k_ ≠ gb141)) k_ ∧ some k_ ≠ (v148 : Value).ownBlock)) (Kd.R_types (Kd.R_apart' (HO155.out) (Kd.N_typed HO149.out) (by decide)) BK141.out (by decide)) (fun k_ hk => ⟨⟨(.inr (hk.1.1.1)), hk.2⟩, hk.1.2⟩)))))
          (case aB => exact (bq1_ HB.out GE141.out))
          (case aF => exact (fun k_ hk => ⟨(.inr (Nat.le_trans (below_size (bq1_ HB.out GE141.out)) hk)), mvF_ BK141.out hk⟩))
          (case aO => exact (by (with_reducible repeat (first | apply Kd.N_alloc | apply Kd.N_drewN | apply Kd.N_drew)); exact Kd.N_mono HO149.out (fun _ hk => ⟨hk.1.1.1, hk.1.1.2⟩)))
          (case aS => exact (below_size (bq1_ HB.out GE141.out)))
          (case aL => have := LMc31.out; omega)
          intro v157 w37 ho hb hg hat
          rw [← Ny156.out] at ho
          have n0_ := Aside0.mk (Kd.V_afterv (ok := (fun k_ => (P0_ k_ ∨ w.heap.size ≤ k_) ∧ some k_ ≠ (.slice Ao36 t150.length co36 : Value).ownBlock ∧ some k_ ≠ (.slice Ao35 t153.length co35 : Value).ownBlock ∧ k_ ≠ gb141)) (by (with_reducible repeat (first | apply Kd.V_alloc | apply Kd.V_drewN | apply Kd.V_drew)); exact Kd.V_mono HO_0.out (fun _ hk => ⟨⟨hk.1.1.1.1, ⟨hk.1.2, ⟨hk.2, hk.1.1.1.2⟩⟩⟩, hk.1.1.2⟩)) hg hat)
          have n1_ := Aside0.mk (blk_grown (g := gb141) (o := .cells #[.slice A2_0 l2_0.length c2_0, .slice A2_1 l2_1.length c2_1] 37 (0, 0)) (mvK_ BK141.out) hg (Kd.N_ne HO149.out BK141.out (by decide)))
          have n2_ := Aside0.mk (hb)
          have n3_ := Aside0.mk (ho)
          clear HO_0 BK141 HB HO149 HO152 HO155
          have HO_0 := n0_
          have BK141 := n1_
          have HB := n2_
          have HO158 := n3_
          clear n0_ n1_ n2_ n3_ ho hb hg hat
          refine hK.out _ _ ⟨(blk_cell BK141.out 0).trans rfl, (blk_cell BK141.out 1).trans rfl⟩ (fun hHeld => ?_)
          clear hK K
          refine norm_ (a' := ?_) ?_ ?_
          rotate_left
          ·show Act.put _ (some 65) _ = _
           simp only [Act.put, sA_, sB_, sC_, i64_w, i32_w]
           rfl
          refine pu_ 8 (some 6) L34_24 HT_ ?_
          refine pu_ 9 (some 7) L34_25 HT_ ?_
          refine done_ (done_of HT_.out (by kernel_rfl)) ?_
          try go_wp2
          go_ret2
          exact ⟨_, by first | rfl | (simp <;> rfl) | (simp [*] <;> rfl), Kd.N_V (by (with_reducible repeat (first | apply Kd.N_alloc | apply Kd.N_drewN | apply Kd.N_drew)); exact Kd.N_mono HO158.out (fun _ hk => hk.1)), bq1_ HB.out GE141.out⟩
         ·rw [if_neg c31] at H
          exact absurd H (by simp)
    ·replace c18 := Bool.eq_false_iff.mpr c18
     subst c18
     have H1 : (some (l0, 30)) = some (r1, r2) := by rw [if_neg (show ¬ (false = true) by decide)] at H; exact H
     clear H
     have H := H1
     clear H1
     simp only [Option.some.injEq, Prod.mk.injEq] at H
     obtain ⟨rfl, rfl⟩ := H
     have hcz38_0 := cz0_ BK141.out
     have hcz38_1 := cz1_ BK141.out
     have hfz38_0 := blk_frozen BK141.out 0
     have hfz38_1 := blk_frozen BK141.out 1
     go_wp2_with (first | ((with_reducible refine gate_callee (f := 40) rfl ?_); refine gL_ (some 36) Try.func40 #[.agg #[.slice A2_0 l2_0.length c2_0, .slice A2_1 l2_1.length c2_1]] ?_; (with_reducible refine (tensor_Check.calls kj3 _ _ l2_0 _ _ l2_1 false _ ?side1 ?side2 ?side3 ?side4 A17.out).mono ?_); (case side1 => exact mvC_ ((Kd.C_below HR2_0.out HB.out))); (case side2 => exact HC2_0.out); (case side3 => exact mvC_ ((Kd.C_below HR2_1.out HB.out))); (case side4 => exact HC2_1.out); rintro e w39 ⟨rfl, hb⟩; refine ⟨_, rfl, ?_⟩; replace HO_0 := mbV_ HO_0.out hb; replace BK141 := mvB_ BK141.out hb; replace HB := Aside0.mk (below_step (bq1_ HB.out GE141.out) hb); (try clear hb)))
     go_ret2
     exact ⟨_, by first | rfl | (simp <;> rfl) | (simp [*] <;> rfl), by (with_reducible repeat (first | apply Kd.V_alloc | apply Kd.V_drewN | apply Kd.V_drew)); exact Kd.V_mono HO_0.out (fun _ hk => hk.1), bq1_ HB.out GE141.out⟩
end Go.Proofs.Ytmolbbebglfhmaa.A
