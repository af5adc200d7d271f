/- Lean functions that answer as the Go functions do, and the proofs that they do; no conditions. Written by this session's own driver: a scratch copy of the kit's print with the session's additions (wip/xprint). -/
import Derived.Test.YtmolbbebglfhmaaAx0
import Derived.Test.YtmolbbebglfhmaaAx2
import Derived.Test.YtmolbbebglfhmaaAx3
import Derived.Test.YtmolbbebglfhmaaAx4
namespace Go.Proofs.Ytmolbbebglfhmaa.A
open Go.RowKit Go.Proofs.YtmolbbebglfhmaaW.PrintWords Go.Proofs.YtmolbbebglfhmaaW.PrintLast Go.Proofs.YtmolbbebglfhmaaW.PrintMore
attribute [local go_sem] max2_int min2_int max_two min_two max_three min_three max_four min_four
set_option linter.unusedVariables false
set_option linter.unusedSimpArgs false
def chain_Read.f (k : Nat) (l0 : List (S74)) (a1 : Int) : Option (List Int × List Int × Bool) := (chain_behind.f l0 a1).bind fun t160 => (if t160 = 0 then (some (([] : List Int), ([] : List Int), false)) else ((chain_Check.f k l0).bind fun t161 => (if t161 = true then (if 0 ≤ (wrap64 (t160 - 1)) then (if (wrap64 (t160 - 1)) < (l0.length : Int) then ((chain_copied.f ((rd_T74 l0 (wrap64 (t160 - 1))).f1.f0) ((rd_T74 l0 (wrap64 (t160 - 1))).f1.f1)).bind fun bt163 => (some (bt163.1, bt163.2, true))) else (none)) else (none)) else (some (([] : List Int), ([] : List Int), false)))))
theorem chain_Read.mono : ∀ a0 a1 k, LeO (chain_Read.f k a0 a1) (chain_Read.f (k + 1) a0 a1) := by
 intro a0 a1 k
 unfold chain_Read.f
 repeat' first
  | (with_reducible first | exact chain_Check.mono _ _ | exact LeO.refl _ | exact LeO.none _ | refine LeO.ite ?_ ?_ | refine LeO.bind ?_ (fun _ => ?_))
  | first | exact chain_Check.mono _ _ | exact LeO.none _ | refine LeO.ite ?_ ?_ | refine LeO.bind ?_ (fun _ => ?_)
set_option maxHeartbeats 8000000 in
set_option maxRecDepth 100000 in
theorem chain_Read.calls (k : Nat) (A0 : Option Addr) (c0 : Nat) (l0 : List (S74)) (a1 : Int) (r1 : List Int) (r2 : List Int) (r3 : Bool) (w : World) (hr0 : Kd.C k74 w A0 l0.length l0) (hc0 : l0.length ≤ c0) (h : chain_Read.f k l0 a1 = some (r1, r2, r3)) :
  Calls Try.prog 35 #[.slice A0 l0.length c0, .int .i64 a1] w fun e w' => ∃ v0_ v1_ : Value, e = .returned (.tuple #[.agg #[v0_, v1_], .bool r3]) ∧ Kd.R (Kd.int .i64) 3 w' w.heap.size (fun k_ => some k_ ≠ (v1_ : Value).ownBlock) v0_ r1 ∧ Kd.R (Kd.int .i64) 3 w' w.heap.size (fun k_ => some k_ ≠ (v0_ : Value).ownBlock) v1_ r2 ∧ Below w.heap.size w w' := by
 have hu37 := Try.underlying37
 have HR0 := Aside0.mk hr0
 have HC0 := Aside0.mk hc0
 clear hr0 hc0
 have HB := Aside0.mk (Below.refl w.heap.size w)
 have H : ((chain_behind.f l0 a1).bind fun t160 => (if t160 = 0 then (some (([] : List Int), ([] : List Int), false)) else ((chain_Check.f k l0).bind fun t161 => (if t161 = true then (if 0 ≤ (wrap64 (t160 - 1)) then (if (wrap64 (t160 - 1)) < (l0.length : Int) then ((chain_copied.f ((rd_T74 l0 (wrap64 (t160 - 1))).f1.f0) ((rd_T74 l0 (wrap64 (t160 - 1))).f1.f1)).bind fun bt163 => (some (bt163.1, bt163.2, true))) else (none)) else (none)) else (some (([] : List Int), ([] : List Int), false)))))) = some (r1, r2, r3) := h
 clear h
 replace H := Option.bind_eq_some_iff.mp H
 obtain ⟨t160, A30, H⟩ := H
 replace H : (if t160 = 0 then (some (([] : List Int), ([] : List Int), false)) else ((chain_Check.f k l0).bind fun t161 => (if t161 = true then (if 0 ≤ (wrap64 (t160 - 1)) then (if (wrap64 (t160 - 1)) < (l0.length : Int) then ((chain_copied.f ((rd_T74 l0 (wrap64 (t160 - 1))).f1.f0) ((rd_T74 l0 (wrap64 (t160 - 1))).f1.f1)).bind fun bt163 => (some (bt163.1, bt163.2, true))) else (none)) else (none)) else (some (([] : List Int), ([] : List Int), false))))) = some (r1, r2, r3) := H
 have A3 := Aside0.mk A30
 clear A30
 by_cases c4 : t160 = 0
 ·rw [if_pos c4] at H
  obtain ⟨c4b0, c4b1⟩ := eqT_ c4
  clear c4
  simp only [Option.some.injEq, Prod.mk.injEq] at H
  obtain ⟨rfl, rfl, rfl⟩ := H
  go_enter Try.func35, Try.ntmps35
  go_wp2_with (first | ((with_reducible refine gate_dst (N := 4) rfl ?_); refine box_event ?hg (N := 4) ?hd (cs := #[.slice none 0 0, .slice none 0 0]) (t := 37) ?hr ?_; (case hd => rfl); (case hg => rfl); (case hr => first | (go_simp; done) | (go_simp; rfl)); intro gb159 hg w5 hbox hb; have BK159 := Aside0.mk (hbox); have GW159 := Aside0.mk ((by rw [hg]; exact (below_size (bq0_ HB.out)) : w.heap.size ≤ gb159)); have GE159 := Aside0.mk ((by rw [hg]; exact (below_size (bq0_ HB.out)) : w.heap.size ≤ gb159)); replace HB := Aside0.mk (below_step (bq0_ HB.out) hb); clear hb hbox hg) | ((with_reducible refine gate_callee (f := 44) rfl ?_); refine gL_ (some 9) Try.func44 #[.slice A0 l0.length c0, .int .i64 a1] ?_; (with_reducible refine (chain_behind.calls _ _ l0 a1 t160 _ ?side1 ?side2 A3.out).mono ?_); (case side1 => exact mvC_ ((Kd.C_below HR0.out HB.out))); (case side2 => exact HC0.out); rintro e w6 ⟨rfl, hb⟩; refine ⟨_, rfl, ?_⟩; replace BK159 := mvB_ BK159.out hb; replace HB := Aside0.mk (below_step (bq1_ HB.out GE159.out) hb); (try clear hb); have hcz7_0 := cz0_ BK159.out; have hcz7_1 := cz1_ BK159.out; have hfz7_0 := blk_frozen BK159.out 0; have hfz7_1 := blk_frozen BK159.out 1))
  refine bodyPost_ret (results_ct rfl _ _ gb159 37 #[.slice none 0 0, .slice none 0 0] (0, 0) _ rfl (by (with_reducible repeat (first | refine blk_drewN ?_ _ | refine blk_drew ?_ | refine blk_alloc ?_ _)); refine blk_put (cs := #[.slice none 0 0, .slice none 0 0]) ?_ 1 _ rfl; (with_reducible repeat (first | refine blk_drewN ?_ _ | refine blk_drew ?_ | refine blk_alloc ?_ _)); refine blk_put (cs := #[.slice none 0 0, .slice none 0 0]) ?_ 0 _ rfl; (with_reducible repeat (first | refine blk_drewN ?_ _ | refine blk_drew ?_ | refine blk_alloc ?_ _)); exact BK159.out) Try.underlying37 rfl (by kernel_rfl)) rfl ?_
  exact ⟨_, _, by first | rfl | (simp <;> rfl) | (simp [*] <;> rfl), by first | exact Kd.R_nil _ _ _ _ _ | exact Kd.N_nil _ _ _ _ _ | exact Kd.V_nil _ _ _ _ _ | exact Kd.Q_nil _ _ _ _ _ | exact Kd.S_nil _ _ _ _ _, by first | exact Kd.R_nil _ _ _ _ _ | exact Kd.N_nil _ _ _ _ _ | exact Kd.V_nil _ _ _ _ _ | exact Kd.Q_nil _ _ _ _ _ | exact Kd.S_nil _ _ _ _ _, bq1_ HB.out GE159.out⟩
 ·rw [if_neg c4] at H
  have c4b0 : (t160 == 0) = false := beq_eq_false_iff_ne.mpr c4
  have c4b1 : (t160 != 0) = true := bne_iff_ne.mpr c4
  replace H := Option.bind_eq_some_iff.mp H
  obtain ⟨t161, A80, H⟩ := H
  replace H : (if t161 = true then (if 0 ≤ (wrap64 (t160 - 1)) then (if (wrap64 (t160 - 1)) < (l0.length : Int) then ((chain_copied.f ((rd_T74 l0 (wrap64 (t160 - 1))).f1.f0) ((rd_T74 l0 (wrap64 (t160 - 1))).f1.f1)).bind fun bt163 => (some (bt163.1, bt163.2, true))) else (none)) else (none)) else (some (([] : List Int), ([] : List Int), false))) = some (r1, r2, r3) := H
  have A8 := Aside0.mk A80
  clear A80
  by_cases c9 : t161 = true
  ·subst c9
   have H1 : (if 0 ≤ (wrap64 (t160 - 1)) then (if (wrap64 (t160 - 1)) < (l0.length : Int) then ((chain_copied.f ((rd_T74 l0 (wrap64 (t160 - 1))).f1.f0) ((rd_T74 l0 (wrap64 (t160 - 1))).f1.f1)).bind fun bt163 => (some (bt163.1, bt163.2, true))) else (none)) else (none)) = some (r1, r2, r3) := by rw [if_pos rfl] at H; exact H
   clear H
   have H := H1
   clear H1
   obtain ⟨ji10, hji10⟩ : ∃ j_ : Int, (wrap64 (t160 - 1)) = j_ := ⟨_, rfl⟩
   replace H : (if 0 ≤ (ji10) then (if (ji10) < (l0.length : Int) then ((chain_copied.f ((rd_T74 l0 (ji10)).f1.f0) ((rd_T74 l0 (ji10)).f1.f1)).bind fun bt163 => (some (bt163.1, bt163.2, true))) else (none)) else (none)) = some (r1, r2, r3) := by first | (rw [hji10] at H; exact H) | (simp only [hji10] at H ⊢; exact H)
   (try rw [hji10] at A3)
   (try rw [hji10] at A8)
   have hji10w : (IntKind.i64.wrap (t160 - 1)) = ji10 := (i64_w _).trans hji10
   by_cases c11 : 0 ≤ (ji10)
   ·rw [if_pos c11] at H
    have c11b0 : decide (0 ≤ (ji10)) = true := decide_eq_true c11
    clear c11
    by_cases c12 : (ji10) < (l0.length : Int)
    ·rw [if_pos c12] at H
     have c12b0 : decide ((ji10) < (l0.length : Int)) = true := decide_eq_true c12
     clear c12
     replace H := Option.bind_eq_some_iff.mp H
     obtain ⟨⟨t163, t166⟩, A130, H⟩ := H
     replace H : (some (t163, t166, true)) = some (r1, r2, r3) := H
     have A13 := Aside0.mk A130
     clear A130
     simp only [Option.some.injEq, Prod.mk.injEq] at H
     obtain ⟨rfl, rfl, rfl⟩ := H
     go_enter Try.func35, Try.ntmps35
     go_wp2_with (first | ((with_reducible refine gate_dst (N := 4) rfl ?_); refine box_event ?hg (N := 4) ?hd (cs := #[.slice none 0 0, .slice none 0 0]) (t := 37) ?hr ?_; (case hd => rfl); (case hg => rfl); (case hr => first | (go_simp; done) | (go_simp; rfl)); intro gb159 hg w14 hbox hb; have BK159 := Aside0.mk (hbox); have GW159 := Aside0.mk ((by rw [hg]; exact (below_size (bq0_ HB.out)) : w.heap.size ≤ gb159)); have GE159 := Aside0.mk ((by rw [hg]; exact (below_size (bq0_ HB.out)) : w.heap.size ≤ gb159)); replace HB := Aside0.mk (below_step (bq0_ HB.out) hb); clear hb hbox hg) | ((with_reducible refine gate_callee (f := 44) rfl ?_); refine gL_ (some 9) Try.func44 #[.slice A0 l0.length c0, .int .i64 a1] ?_; (with_reducible refine (chain_behind.calls _ _ l0 a1 t160 _ ?side1 ?side2 A3.out).mono ?_); (case side1 => exact mvC_ ((Kd.C_below HR0.out HB.out))); (case side2 => exact HC0.out); rintro e w15 ⟨rfl, hb⟩; refine ⟨_, rfl, ?_⟩; replace BK159 := mvB_ BK159.out hb; replace HB := Aside0.mk (below_step (bq1_ HB.out GE159.out) hb); (try clear hb)) | (go_at_call 26; (with_reducible refine (chain_Check.calls k _ _ l0 true _ ?side1 ?side2 A8.out).mono ?_); (case side1 => exact mvC_ ((Kd.C_below HR0.out HB.out))); (case side2 => exact HC0.out); rintro e w16 ⟨rfl, hb⟩; replace BK159 := mvB_ BK159.out hb; replace HB := Aside0.mk (below_step (bq1_ HB.out GE159.out) hb); (try clear hb); have p162 : 0 ≤ ((ji10) : Int) := od_; have q162 : (ji10) < (l0.length : Int) := od_; obtain ⟨ad162, A162_1, c162_1, A162_2, c162_2, e162, hx162_0, hx162_1, hx162_2, hl162_1, hi162_1, hl162_2, hi162_2⟩ := at_T74 HR0.out (ji10) p162 q162; cases e162; replace hx162_0 := hb_ HB hx162_0; replace hx162_1 := hb_ HB hx162_1; replace hx162_2 := hb_ HB hx162_2; have HR162_1 := Aside0.mk hi162_1; have HC162_1 := Aside0.mk hl162_1; clear hi162_1 hl162_1; have HR162_2 := Aside0.mk hi162_2; have HC162_2 := Aside0.mk hl162_2; clear hi162_2 hl162_2; replace p162 := eq_true p162; replace q162 := eq_true q162) | ((with_reducible refine gate_callee (f := 50) rfl ?_); refine goesL_ (some 24) rfl rfl Try.func50 (by kernel_rfl) rfl #[.agg #[.slice A162_1 ((rd_T74 l0 (ji10)).f1.f0).length c162_1, .slice A162_2 ((rd_T74 l0 (ji10)).f1.f1).length c162_2]] rfl (by (try simp only [List.map_toArray, List.map_cons, List.map_nil]); first | done | (simp only [hji10]; rfl) | rfl | (simp only [List.length_drop, List.length_take]; rfl)) ?_; (with_reducible refine (chain_copied.calls _ _ ((rd_T74 l0 (ji10)).f1.f0) _ _ ((rd_T74 l0 (ji10)).f1.f1) t163 t166 _ ?side1 ?side2 ?side3 ?side4 A13.out).mono ?_); (case side1 => exact mvC_ ((Kd.C_below HR162_1.out HB.out))); (case side2 => exact HC162_1.out); (case side3 => exact mvC_ ((Kd.C_below HR162_2.out HB.out))); (case side4 => exact HC162_2.out); rintro e w17 ⟨v164, v167, rfl, ho0, ho1, hb⟩; refine ⟨_, rfl, ?_⟩; have HO165 := Aside0.mk (Kd.R_lower ho0 (below_size (bq1_ HB.out GE159.out))); have HO168 := Aside0.mk (Kd.R_lower ho1 (below_size (bq1_ HB.out GE159.out))); replace BK159 := mvB_ BK159.out hb; replace HB := Aside0.mk (below_step (bq1_ HB.out GE159.out) hb); (try clear hb); (try clear ho0); (try clear ho1); obtain ⟨Ao18, co18, eo18⟩ := Kd.R_slice HO165.out; subst eo18; have hcz19_0 := cz0_ BK159.out; have hcz19_1 := cz1_ BK159.out; have hfz19_0 := blk_frozen BK159.out 0; have hfz19_1 := blk_frozen BK159.out 1; obtain ⟨Ao20, co20, eo20⟩ := Kd.R_slice HO168.out; subst eo20))
     refine bodyPost_ret (results_ct rfl _ _ gb159 37 #[.slice Ao18 t163.length co18, .slice Ao20 t166.length co20] (0, 0) _ rfl (by (with_reducible repeat (first | refine blk_drewN ?_ _ | refine blk_drew ?_ | refine blk_alloc ?_ _)); refine blk_put (cs := #[.slice Ao18 t163.length co18, .slice none 0 0]) ?_ 1 _ rfl; (with_reducible repeat (first | refine blk_drewN ?_ _ | refine blk_drew ?_ | refine blk_alloc ?_ _)); refine blk_put (cs := #[.slice none 0 0, .slice none 0 0]) ?_ 0 _ rfl; (with_reducible repeat (first | refine blk_drewN ?_ _ | refine blk_drew ?_ | refine blk_alloc ?_ _)); exact BK159.out) Try.underlying37 rfl (by kernel_rfl)) rfl ?_
     exact ⟨_, _, by first | rfl | (simp [errW_none, errW_some] <;> rfl) | (simp only [← hji10]; first | rfl | (simp [errW_none, errW_some] <;> rfl)) | (simp [*, errW_none, errW_some] <;> rfl), by (with_reducible repeat (first | apply Kd.R_alloc | apply Kd.R_drewN | apply Kd.R_drew)); exact Kd.R_mono (Kd.R_far (p := ⟨gb159, 1, none⟩) (Kd.R_far (p := ⟨gb159, 0, none⟩) (Kd.R_types HO165.out BK159.out (by decide)) (fun _ hk => hk.2) (.slice Ao18 t163.length co18)) (fun _ hk => hk.2) (.slice Ao20 t166.length co20)) (fun _ hk => hk.1), by (with_reducible repeat (first | apply Kd.R_alloc | apply Kd.R_drewN | apply Kd.R_drew)); exact Kd.R_mono (Kd.R_far (p := ⟨gb159, 1, none⟩) (Kd.R_far (p := ⟨gb159, 0, none⟩) (Kd.R_types HO168.out BK159.out (by decide)) (fun _ hk => hk.2) (.slice Ao18 t163.length co18)) (fun _ hk => hk.2) (.slice Ao20 t166.length co20)) (fun _ hk => hk.1), bq1_ HB.out GE159.out⟩
    ·rw [if_neg c12] at H
     exact absurd H (by simp)
   ·rw [if_neg c11] at H
    exact absurd H (by simp)
  ·replace c9 := Bool.eq_false_iff.mpr c9
   subst c9
   have H1 : (some (([] : List Int), ([] : List Int), false)) = some (r1, r2, r3) := by rw [if_neg (show ¬ (false = true) by decide)] at H; exact H
   clear H
   have H := H1
   clear H1
   simp only [Option.some.injEq, Prod.mk.injEq] at H
   obtain ⟨rfl, rfl, rfl⟩ := H
   go_enter Try.func35, Try.ntmps35
   go_wp2_with (first | ((with_reducible refine gate_dst (N := 4) rfl ?_); refine box_event ?hg (N := 4) ?hd (cs := #[.slice none 0 0, .slice none 0 0]) (t := 37) ?hr ?_; (case hd => rfl); (case hg => rfl); (case hr => first | (go_simp; done) | (go_simp; rfl)); intro gb159 hg w21 hbox hb; have BK159 := Aside0.mk (hbox); have GW159 := Aside0.mk ((by rw [hg]; exact (below_size (bq0_ HB.out)) : w.heap.size ≤ gb159)); have GE159 := Aside0.mk ((by rw [hg]; exact (below_size (bq0_ HB.out)) : w.heap.size ≤ gb159)); replace HB := Aside0.mk (below_step (bq0_ HB.out) hb); clear hb hbox hg) | ((with_reducible refine gate_callee (f := 44) rfl ?_); refine gL_ (some 9) Try.func44 #[.slice A0 l0.length c0, .int .i64 a1] ?_; (with_reducible refine (chain_behind.calls _ _ l0 a1 t160 _ ?side1 ?side2 A3.out).mono ?_); (case side1 => exact mvC_ ((Kd.C_below HR0.out HB.out))); (case side2 => exact HC0.out); rintro e w22 ⟨rfl, hb⟩; refine ⟨_, rfl, ?_⟩; replace BK159 := mvB_ BK159.out hb; replace HB := Aside0.mk (below_step (bq1_ HB.out GE159.out) hb); (try clear hb)) | (go_at_call 26; (with_reducible refine (chain_Check.calls k _ _ l0 false _ ?side1 ?side2 A8.out).mono ?_); (case side1 => exact mvC_ ((Kd.C_below HR0.out HB.out))); (case side2 => exact HC0.out); rintro e w23 ⟨rfl, hb⟩; replace BK159 := mvB_ BK159.out hb; replace HB := Aside0.mk (below_step (bq1_ HB.out GE159.out) hb); (try clear hb); have hcz24_0 := cz0_ BK159.out; have hcz24_1 := cz1_ BK159.out; have hfz24_0 := blk_frozen BK159.out 0; have hfz24_1 := blk_frozen BK159.out 1))
   refine bodyPost_ret (results_ct rfl _ _ gb159 37 #[.slice none 0 0, .slice none 0 0] (0, 0) _ rfl (by (with_reducible repeat (first | refine blk_drewN ?_ _ | refine blk_drew ?_ | refine blk_alloc ?_ _)); refine blk_put (cs := #[.slice none 0 0, .slice none 0 0]) ?_ 1 _ rfl; (with_reducible repeat (first | refine blk_drewN ?_ _ | refine blk_drew ?_ | refine blk_alloc ?_ _)); refine blk_put (cs := #[.slice none 0 0, .slice none 0 0]) ?_ 0 _ rfl; (with_reducible repeat (first | refine blk_drewN ?_ _ | refine blk_drew ?_ | refine blk_alloc ?_ _)); exact BK159.out) Try.underlying37 rfl (by kernel_rfl)) rfl ?_
   exact ⟨_, _, by first | rfl | (simp <;> rfl) | (simp [*] <;> rfl), by first | exact Kd.R_nil _ _ _ _ _ | exact Kd.N_nil _ _ _ _ _ | exact Kd.V_nil _ _ _ _ _ | exact Kd.Q_nil _ _ _ _ _ | exact Kd.S_nil _ _ _ _ _, by first | exact Kd.R_nil _ _ _ _ _ | exact Kd.N_nil _ _ _ _ _ | exact Kd.V_nil _ _ _ _ _ | exact Kd.Q_nil _ _ _ _ _ | exact Kd.S_nil _ _ _ _ _, bq1_ HB.out GE159.out⟩
def store_All.l0 : Nat → Int → List (S37) → List (List (S74)) → Int → Int → Option ((List (S37)))
 | 0, _, _, _, _, _ => none
 | k + 1, x1, x4, x13, x14, x15 => if x15 < x14 then (if 0 ≤ x15 then (if x15 < (x13.length : Int) then ((chain_Read.f k (rd_L4 x13 x15) x1).bind fun bt172 => (if x4.length < 2932031007402 then (store_All.l0 k x1 (x4 ++ [(⟨bt172.1, bt172.2.1⟩ : S37)]) x13 x14 (wrap64 (x15 + 1))) else (none))) else (none)) else (none)) else (some x4)
def store_All.f (k : Nat) (l0_0 : List (List (S74))) (a0_1 : Int) (l0_2 : List Int) (a1 : Int) : Option ((List (S37))) := (store_Check.f k l0_0 a0_1 l0_2).bind fun t170 => (if t170 = true then (store_All.l0 k a1 ([] : List (S37)) l0_0 (l0_0.length : Int) 0) else (some ([] : List (S37))))
theorem store_All.mono_l : ∀ k, (∀ y0 y1 y2 y3 y4, LeO (store_All.l0 k y0 y1 y2 y3 y4) (store_All.l0 (k + 1) y0 y1 y2 y3 y4))
 | 0 => fun _ _ _ _ _ r h => by simp [store_All.l0] at h
 | k + 1 => by
  have ih0 := store_All.mono_l k
  ·intro y0 y1 y2 y3 y4
   unfold store_All.l0
   repeat' first
    | (with_reducible first | exact ih0 _ _ _ _ _ | exact chain_Read.mono _ _ _ | exact store_Check.mono _ _ _ _ | exact LeO.refl _ | exact LeO.none _ | refine LeO.ite ?_ ?_ | refine LeO.bind ?_ (fun _ => ?_))
    | first | exact ih0 _ _ _ _ _ | exact chain_Read.mono _ _ _ | exact store_Check.mono _ _ _ _ | exact LeO.none _ | refine LeO.ite ?_ ?_ | refine LeO.bind ?_ (fun _ => ?_)
theorem store_All.mono : ∀ a0 a1 a2 a3 k, LeO (store_All.f k a0 a1 a2 a3) (store_All.f (k + 1) a0 a1 a2 a3) := by
 intro a0 a1 a2 a3 k
 have ih0 := store_All.mono_l k
 unfold store_All.f
 repeat' first
  | (with_reducible first | exact ih0 _ _ _ _ _ | exact chain_Read.mono _ _ _ | exact store_Check.mono _ _ _ _ | exact LeO.refl _ | exact LeO.none _ | refine LeO.ite ?_ ?_ | refine LeO.bind ?_ (fun _ => ?_))
  | first | exact ih0 _ _ _ _ _ | exact chain_Read.mono _ _ _ | exact store_Check.mono _ _ _ _ | exact LeO.none _ | refine LeO.ite ?_ ?_ | refine LeO.bind ?_ (fun _ => ?_)
set_option maxHeartbeats 8000000 in
set_option maxRecDepth 100000 in
theorem store_All.calls (k : Nat) (A0_0 : Option Addr) (c0_0 : Nat) (l0_0 : List (List (S74))) (a0_1 : Int) (A0_2 : Option Addr) (c0_2 : Nat) (l0_2 : List Int) (a1 : Int) (r : List (S37)) (w : World) (hr0_0 : Kd.C (Kd.slice 74 k74) w A0_0 l0_0.length l0_0) (hc0_0 : l0_0.length ≤ c0_0) (hr0_2 : Kd.C (Kd.int .i64) w A0_2 l0_2.length l0_2) (hc0_2 : l0_2.length ≤ c0_2) (h : store_All.f k l0_0 a0_1 l0_2 a1 = some r) :
  Calls Try.prog 11 #[.agg #[.slice A0_0 l0_0.length c0_0, .int .i64 a0_1, .slice A0_2 l0_2.length c0_2], .int .i64 a1] w fun e w' => ∃ v0_ : Value, e = .returned (v0_) ∧ Kd.R k37 37 w' w.heap.size (fun _ => True) v0_ r ∧ Below w.heap.size w w' := by
 have hu25 := Try.underlying25
 have hu37 := Try.underlying37
 have HR0_0 := Aside0.mk hr0_0
 have HC0_0 := Aside0.mk hc0_0
 clear hr0_0 hc0_0
 have HR0_2 := Aside0.mk hr0_2
 have HC0_2 := Aside0.mk hc0_2
 clear hr0_2 hc0_2
 have HB := Aside0.mk (Below.refl w.heap.size w)
 have H : ((store_Check.f k l0_0 a0_1 l0_2).bind fun t170 => (if t170 = true then (store_All.l0 k a1 ([] : List (S37)) l0_0 (l0_0.length : Int) 0) else (some ([] : List (S37))))) = some r := h
 clear h
 replace H := Option.bind_eq_some_iff.mp H
 obtain ⟨t170, A30, H⟩ := H
 replace H : (if t170 = true then (store_All.l0 k a1 ([] : List (S37)) l0_0 (l0_0.length : Int) 0) else (some ([] : List (S37)))) = some r := H
 have A3 := Aside0.mk A30
 clear A30
 by_cases c4 : t170 = true
 ·subst c4
  have H1 : (store_All.l0 k a1 ([] : List (S37)) l0_0 (l0_0.length : Int) 0) = some r := by rw [if_pos rfl] at H; exact H
  clear H
  have H := H1
  clear H1
  have H' := Aside0.mk H
  clear H
  go_enter Try.func11, Try.ntmps11
  go_wp2_with (first | ((with_reducible refine gate_dst (N := 2) rfl ?_); refine box_event ?hg (N := 2) ?hd (cs := #[.slice A0_0 l0_0.length c0_0, .int .i64 a0_1, .slice A0_2 l0_2.length c0_2]) (t := 25) ?hr ?_; (case hd => rfl); (case hg => rfl); (case hr => first | (go_simp; done) | (go_simp; rfl)); intro gb169 hg w5 hbox hb; have BK169 := Aside0.mk (hbox); have GW169 := Aside0.mk ((by rw [hg]; exact (below_size (bq0_ HB.out)) : w.heap.size ≤ gb169)); have GE169 := Aside0.mk ((by rw [hg]; exact (below_size (bq0_ HB.out)) : w.heap.size ≤ gb169)); replace HB := Aside0.mk (below_step (bq0_ HB.out) hb); clear hb hbox hg; have hcz6_0 := hc_ BK169 0; have hcz6_1 := hc_ BK169 1; have hcz6_2 := hc_ BK169 2; have hfz6_0 := blk_frozen BK169.out 0; have hfz6_1 := blk_frozen BK169.out 1; have hfz6_2 := blk_frozen BK169.out 2) | ((with_reducible refine gate_callee (f := 9) rfl ?_); refine gL_ (some 10) Try.func9 #[.agg #[.slice A0_0 l0_0.length c0_0, .int .i64 a0_1, .slice A0_2 l0_2.length c0_2]] ?_; (with_reducible refine (store_Check.calls k _ _ l0_0 a0_1 _ _ l0_2 true _ ?side1 ?side2 ?side3 ?side4 A3.out).mono ?_); (case side1 => exact mvC_ ((Kd.C_below HR0_0.out HB.out))); (case side2 => exact HC0_0.out); (case side3 => exact mvC_ ((Kd.C_below HR0_2.out HB.out))); (case side4 => exact HC0_2.out); rintro e w7 ⟨rfl, hb⟩; refine ⟨_, rfl, ?_⟩; replace BK169 := Aside0.mk (blk_below (g := gb169) (o := .cells #[.slice A0_0 l0_0.length c0_0, .int .i64 a0_1, .slice A0_2 l0_2.length c0_2] 25 (0, 0)) (mvK_ BK169.out) hb); replace HB := Aside0.mk (below_step (bq1_ HB.out GE169.out) hb); (try clear hb); have hcz8_0 := hc_ BK169 0; have hcz8_1 := hc_ BK169 1; have hcz8_2 := hc_ BK169 2; have hfz8_0 := blk_frozen BK169.out 0; have hfz8_1 := blk_frozen BK169.out 1; have hfz8_2 := blk_frozen BK169.out 2))
  go_loopg [4, 15] k (fun kq v4 v15 w' => ∃ (x4_1 : List (S37)) (x15_1 : Int), v15 = .int .i64 x15_1 ∧ Aside0 (store_All.l0 kq a1 x4_1 l0_0 (l0_0.length : Int) x15_1 = some r) ∧ Aside0 (kq ≤ k) ∧ Aside0 (Kd.R k37 37 w' w.heap.size (fun _ => True) v4 x4_1) ∧ Aside0 (w'.heap[gb169]? = some (.cells #[(.slice A0_0 l0_0.length c0_0), .int .i64 a0_1, (.slice A0_2 l0_2.length c0_2)] 25 (0, 0))) ∧ Aside0 (Below w.heap.size w w'))
  case atStart => exact ⟨(([] : List (S37))), (0), (by first | rfl | (simp; done) | (simp [*]; done)), H', ⟨Nat.le_refl _⟩, ⟨by first | exact Kd.R_nil _ _ _ _ _ | exact Kd.N_nil _ _ _ _ _ | exact Kd.V_nil _ _ _ _ _ | exact Kd.Q_nil _ _ _ _ _ | exact Kd.S_nil _ _ _ _ _⟩, ⟨by (with_reducible repeat (first | refine blk_drewN ?_ _ | refine blk_drew ?_ | refine blk_alloc ?_ _)); exact BK169.out⟩, ⟨bq1_ HB.out GE169.out⟩⟩
  case round =>
   clear H'
   try clear c1
   try clear p2
   try clear c4
   try clear hcz6_0
   try clear hcz6_1
   try clear hcz6_2
   try clear hcz8_0
   try clear hcz8_1
   try clear hcz8_2
   try clear hfz6_0
   try clear hfz6_1
   try clear hfz6_2
   try clear hfz8_0
   try clear hfz8_1
   try clear hfz8_2
   obtain ⟨x4_1, x15_1, rfl, HA, HK1, HO_4, BK169, HB⟩ := hrel
   cases gk with
   | zero => exact absurd HA.out (by simp [store_All.l0])
   | succ k1 =>
    have H := HA.out
    clear HA
    simp only [store_All.l0] at H
    by_cases c9 : x15_1 < (l0_0.length : Int)
    ·rw [if_pos c9] at H
     have c9b0 : decide (x15_1 < (l0_0.length : Int)) = true := decide_eq_true c9
     clear c9
     by_cases c10 : 0 ≤ x15_1
     ·rw [if_pos c10] at H
      have c10b0 : decide (0 ≤ x15_1) = true := decide_eq_true c10
      clear c10
      by_cases c11 : x15_1 < (l0_0.length : Int)
      ·rw [if_pos c11] at H
       have c11b0 : decide (x15_1 < (l0_0.length : Int)) = true := decide_eq_true c11
       clear c11
       replace H := Option.bind_eq_some_iff.mp H
       obtain ⟨⟨t172, t175, t178⟩, A120, H⟩ := H
       replace H : (if x4_1.length < 2932031007402 then (store_All.l0 k1 a1 (x4_1 ++ [(⟨t172, t175⟩ : S37)]) l0_0 (l0_0.length : Int) (wrap64 (x15_1 + 1))) else (none)) = some r := H
       have A12 := Aside0.mk A120
       clear A120
       by_cases c13 : x4_1.length < 2932031007402
       ·rw [if_pos c13] at H
        have LMc13 := Aside0.mk c13
        clear c13
        obtain ⟨y180, hy180⟩ : ∃ y_ : List (S37), y_ = (x4_1 ++ [(⟨t172, t175⟩ : S37)]) := ⟨_, rfl⟩
        replace H : (store_All.l0 k1 a1 y180 l0_0 (l0_0.length : Int) (wrap64 (x15_1 + 1))) = some r := by first | (rw [hy180]; with_reducible exact H) | (have H2_ := (Option.bind_some _ _).symm.trans H; rw [hy180]; with_reducible exact H2_) | (have H2_ := (Option.bind_some _ _).symm.trans H; with_reducible exact H2_) | with_reducible exact H | (rw [hy180]; exact H) | exact H
        have Ny180 := Aside0.mk hy180
        clear hy180
        have H' := Aside0.mk H
        clear H
        have p171 : 0 ≤ (x15_1 : Int) := od_
        have q171 : x15_1 < (l0_0.length : Int) := od_
        obtain ⟨ad171, A171_0, c171_0, e171, hx171_0, hl171_0, hi171_0⟩ := at_L4 HR0_0.out x15_1 p171 q171
        cases e171
        replace hx171_0 := hb_ HB hx171_0
        have HR171_0 := Aside0.mk hi171_0
        have HC171_0 := Aside0.mk hl171_0
        clear hi171_0 hl171_0
        replace p171 := eq_true p171
        replace q171 := eq_true q171
        go_wp2_with (first | ((with_reducible refine gate_callee (f := 35) rfl ?_); refine gL_ (some 22) Try.func35 #[.slice A171_0 (rd_L4 l0_0 x15_1).length c171_0, .int .i64 a1] ?_; (with_reducible refine (chain_Read.calls k1 _ _ (rd_L4 l0_0 x15_1) a1 t172 t175 t178 _ ?side1 ?side2 A12.out).mono ?_); (case side1 => exact mvC_ ((Kd.C_below HR171_0.out HB.out))); (case side2 => exact HC171_0.out); rintro e w14 ⟨v173, v176, rfl, ho0, ho1, hb⟩; refine ⟨_, rfl, ?_⟩; have HO174 := Aside0.mk (Kd.R_lower ho0 (below_size (bq1_ HB.out GE169.out))); have HO177 := Aside0.mk (Kd.R_lower ho1 (below_size (bq1_ HB.out GE169.out))); replace HO_4 := Aside0.mk (Kd.R_mono (Kd.R_told (Kd.R_told (Kd.R_old (mvR_ HO_4.out) hb) (Kd.R_base ho0)) (Kd.R_base ho1)) (fun _ h_ => h_.1)); replace BK169 := Aside0.mk (blk_below (g := gb169) (o := .cells #[.slice (some ad171) l0_0.length c0_0, .int .i64 a0_1, .slice A0_2 l0_2.length c0_2] 25 (0, 0)) (mvK_ BK169.out) hb); replace HB := Aside0.mk (below_step (bq1_ HB.out GE169.out) hb); (try clear hb); (try clear ho0); (try clear ho1)) | ((with_reducible refine gate_dst (N := 7) rfl ?_); refine box_event ?hg (N := 7) ?hd (cs := #[.slice none 0 0, .slice none 0 0]) (t := 37) ?hr ?_; (case hd => rfl); (case hg => rfl); (case hr => first | (go_simp; done) | (go_simp; rfl)); intro gb179 hg w15 hbox hb; have BK179 := Aside0.mk (hbox); have GW179 := Aside0.mk ((by rw [hg]; exact (below_size (bq1_ HB.out GE169.out)) : w.heap.size ≤ gb179)); have GE179 := Aside0.mk ((by rw [hg]; exact (below_size (bq1_ HB.out GE169.out)) : w.heap.size ≤ gb179)); have NB169_179 := Aside0.mk ((by rw [hg]; exact Nat.ne_of_lt (blk_lt (g := gb169) (o := .cells #[.slice (some ad171) l0_0.length c0_0, .int .i64 a0_1, .slice A0_2 l0_2.length c0_2] 25 (0, 0)) (mvK_ BK169.out)) : gb169 ≠ gb179)); have NB179_169 := Aside0.mk ((by rw [hg]; exact Nat.ne_of_gt (blk_lt (g := gb169) (o := .cells #[.slice (some ad171) l0_0.length c0_0, .int .i64 a0_1, .slice A0_2 l0_2.length c0_2] 25 (0, 0)) (mvK_ BK169.out)) : gb179 ≠ gb169)); replace HO_4 := Aside0.mk (Kd.R_below (Kd.R_elderB (mvR_ HO_4.out) gb179 (Nat.le_of_eq hg.symm)) hb); replace HO174 := Aside0.mk (Kd.R_below (mvR_ HO174.out) hb); replace HO177 := Aside0.mk (Kd.R_below (mvR_ HO177.out) hb); replace BK169 := Aside0.mk (blk_below (g := gb169) (o := .cells #[.slice (some ad171) l0_0.length c0_0, .int .i64 a0_1, .slice A0_2 l0_2.length c0_2] 25 (0, 0)) (mvK_ BK169.out) hb); replace HB := Aside0.mk (below_step (bq1_ HB.out GE169.out) hb); clear hb hbox hg; obtain ⟨Ao16, co16, eo16⟩ := Kd.R_slice HO174.out; subst eo16; have hnb17 := NB179_169.out; have hnc17 := NB169_179.out; have hcz18_0 := hc_ BK179 0; have hcz18_1 := hc_ BK179 1; have hfz18_0 := blk_frozen BK179.out 0; have hfz18_1 := blk_frozen BK179.out 1; obtain ⟨Ao19, co19, eo19⟩ := Kd.R_slice HO177.out; subst eo19) | ((with_reducible refine gate_store (t := 37) (p := 7) rfl ?_); refine store_event (t := 37) (p := 7) (v := ?vo_w20) (w1 := ((w15.setCell ⟨gb179, 0, none⟩ (.slice Ao16 t172.length co16)).setCell ⟨gb179, 1, none⟩ (.slice Ao19 t175.length co19))) ?hg ?ho ?hn ?hr ?_; (case ho => rfl); (case hg => rfl); (case hn => rfl); (case hr => first | (go_simp; done) | (go_simp; rfl)); intro w20 hw; have n0_ : Aside0 (Kd.R k37 37 w20 w.heap.size (fun k_ => some k_ ≠ (.slice Ao16 t172.length co16 : Value).ownBlock ∧ some k_ ≠ (.slice Ao19 t175.length co19 : Value).ownBlock ∧ k_ ≠ gb179) u4 x4_1) := ⟨(by rw [hw]; exact (by (with_reducible repeat (first | apply Kd.R_alloc | apply Kd.R_drewN | apply Kd.R_drew)); exact Kd.R_mono (Kd.R_far (p := ⟨gb179, 1, none⟩) (Kd.R_far (p := ⟨gb179, 0, none⟩) (Kd.R_mono HO_4.out (fun k_ hk => (⟨hk, hk.2⟩ : _ ∧ k_ ≠ gb179))) (fun _ hk => hk.2) (.slice Ao16 t172.length co16)) (fun _ hk => hk.2) (.slice Ao19 t175.length co19)) (fun _ hk => ⟨hk.1.1.1.2, ⟨hk.1.1.2, hk.1.2⟩⟩)))⟩; have n1_ : Aside0 (Kd.R (Kd.int .i64) 3 w20 w.heap.size (fun k_ => some k_ ≠ (.slice Ao19 t175.length co19 : Value).ownBlock) (.slice Ao16 t172.length co16) t172) := ⟨(by rw [hw]; exact (by (with_reducible repeat (first | apply Kd.R_alloc | apply Kd.R_drewN | apply Kd.R_drew)); exact Kd.R_mono (Kd.R_far (p := ⟨gb179, 1, none⟩) (Kd.R_far (p := ⟨gb179, 0, none⟩) (Kd.R_types HO174.out BK179.out (by decide)) (fun _ hk => hk.2) (.slice Ao16 t172.length co16)) (fun _ hk => hk.2) (.slice Ao19 t175.length co19)) (fun _ hk => hk.1)))⟩; have n2_ : Aside0 (Kd.R (Kd.int .i64) 3 w20 w.heap.size (fun k_ => some k_ ≠ (.slice Ao16 t172.length co16 : Value).ownBlock) (.slice Ao19 t175.length co19) t175) := ⟨(by rw [hw]; exact (by (with_reducible repeat (first | apply Kd.R_alloc | apply Kd.R_drewN | apply Kd.R_drew)); exact Kd.R_mono (Kd.R_far (p := ⟨gb179, 1, none⟩) (Kd.R_far (p := ⟨gb179, 0, none⟩) (Kd.R_types HO177.out BK179.out (by decide)) (fun _ hk => hk.2) (.slice Ao16 t172.length co16)) (fun _ hk => hk.2) (.slice Ao19 t175.length co19)) (fun _ hk => hk.1)))⟩; have n3_ : Aside0 (w20.heap[gb169]? = some (.cells #[.slice (some ad171) l0_0.length c0_0, .int .i64 a0_1, .slice A0_2 l0_2.length c0_2] 25 (0, 0))) := ⟨(by rw [hw]; exact (by (with_reducible repeat (first | refine blk_drewN ?_ _ | refine blk_drew ?_ | refine blk_alloc ?_ _)); refine blk_far ?_ NB169_179.out _; (with_reducible repeat (first | refine blk_drewN ?_ _ | refine blk_drew ?_ | refine blk_alloc ?_ _)); refine blk_far ?_ NB169_179.out _; (with_reducible repeat (first | refine blk_drewN ?_ _ | refine blk_drew ?_ | refine blk_alloc ?_ _)); exact BK169.out))⟩; have n4_ : Aside0 (w20.heap[gb179]? = some (.cells #[.slice Ao16 t172.length co16, .slice Ao19 t175.length co19] 37 (0, 0))) := ⟨(by rw [hw]; exact (by (with_reducible repeat (first | refine blk_drewN ?_ _ | refine blk_drew ?_ | refine blk_alloc ?_ _)); refine blk_put (cs := #[.slice Ao16 t172.length co16, .slice none 0 0]) ?_ 1 _ rfl; (with_reducible repeat (first | refine blk_drewN ?_ _ | refine blk_drew ?_ | refine blk_alloc ?_ _)); refine blk_put (cs := #[.slice none 0 0, .slice none 0 0]) ?_ 0 _ rfl; (with_reducible repeat (first | refine blk_drewN ?_ _ | refine blk_drew ?_ | refine blk_alloc ?_ _)); exact BK179.out))⟩; have n5_ : Aside0 (Below w.heap.size w w20) := ⟨(by rw [hw]; exact (bq2_ HB.out GE169.out GE179.out))⟩; clear hw; clear HO_4; clear HO174; clear HO177; clear BK169; clear BK179; clear HB; have HO_4 := n0_; have HO174 := n1_; have HO177 := n2_; have BK169 := n3_; have BK179 := n4_; have HB := n5_; clear n0_ n1_ n2_ n3_ n4_ n5_; have hcz21_0 := hc_ BK179 0; have hcz21_1 := hc_ BK179 1; have hfz21_0 := blk_frozen BK179.out 0; have hfz21_1 := blk_frozen BK179.out 1) | ((with_reducible refine gate_builtin (b := .append) (xs := #[.tmp 25, .tmp 27]) rfl ?_); at_builtin; refine Kd.R_append k37 (w0 := w) w.heap.size rfl (.tmp 25) (.tmp 27) 33 37 (.agg #[(.slice none 0 0), (.slice none 0 0)]) 48 rfl Try.underlying33 info37 rfl (by decide) (by omega) u4 x4_1 (⟨t172, t175⟩ : S37) [.slice Ao16 t172.length co16, .slice Ao19 t175.length co19] (fun k_ => k_ ≠ gb179) (fun k_ => ((fun k_ => k_ ≠ gb179)) k_ ∧ some k_ ≠ (u4 : Value).ownBlock) rfl rfl ?aP (fun _ hk => hk) ?aF ?aO ?aB ?aS ?aL ?_; (case aP => exact k37_mkM _ _ _ (⟨t172, t175⟩ : S37) (Kd.R_mono (Kd.R_types (Kd.R_apart' (HO174.out) (Kd.R_typed HO_4.out) (by decide)) BK179.out (by decide)) (fun k_ hk => ⟨hk.2, hk.1.2⟩)) (Kd.R_mono (Kd.R_types (Kd.R_apart' (HO177.out) (Kd.R_typed HO_4.out) (by decide)) BK179.out (by decide)) (fun k_ hk => ⟨hk.2, hk.1.2⟩))); (case aB => exact (bq2_ HB.out GE169.out GE179.out)); (case aF => exact (fun k_ hk => Kd.freshB (g := gb179) (o := .cells #[.slice Ao16 t172.length co16, .slice Ao19 t175.length co19] 37 (0, 0)) (mvK_ BK179.out) k_ hk)); (case aO => exact (by (with_reducible repeat (first | apply Kd.R_alloc | apply Kd.R_drewN | apply Kd.R_drew)); exact Kd.R_mono HO_4.out (fun _ hk => hk.2.2))); (case aS => exact (below_size (bq2_ HB.out GE169.out GE179.out))); (case aL => have := LMc13.out; omega); intro v181 w22 ho hb hg hat; rw [← Ny180.out] at ho; have HO182 := Aside0.mk (ho); replace BK169 := Aside0.mk (blk_grown (g := gb169) (o := .cells #[.slice (some ad171) l0_0.length c0_0, .int .i64 a0_1, .slice A0_2 l0_2.length c0_2] 25 (0, 0)) (mvK_ BK169.out) hg (Kd.R_ne HO_4.out BK169.out (by decide))); replace BK179 := Aside0.mk (blk_grown (g := gb179) (o := .cells #[.slice Ao16 t172.length co16, .slice Ao19 t175.length co19] 37 (0, 0)) (mvK_ BK179.out) hg (Kd.R_away HO_4.out (fun _ hk => hk.2.2))); replace HB := Aside0.mk (hb); clear HO_4 HO174 HO177 ho hb hg hat))
        go_roundg k1
        case measure => have := HK1.out; omega
        case rel => exact ⟨(y180), (wrap64 (x15_1 + 1)), (by first | rfl | (simp; done) | (simp [*]; done)), H', ⟨by have := HK1.out; omega⟩, ⟨by (with_reducible repeat (first | apply Kd.R_alloc | apply Kd.R_drewN | apply Kd.R_drew)); exact Kd.R_mono HO182.out (fun _ hk => trivial)⟩, ⟨by (with_reducible repeat (first | refine blk_drewN ?_ _ | refine blk_drew ?_ | refine blk_alloc ?_ _)); exact BK169.out⟩, ⟨bq2_ HB.out GE169.out GE179.out⟩⟩
       ·rw [if_neg c13] at H
        exact absurd H (by simp)
      ·rw [if_neg c11] at H
       exact absurd H (by simp)
     ·rw [if_neg c10] at H
      exact absurd H (by simp)
    ·rw [if_neg c9] at H
     have c9b0 : decide (x15_1 < (l0_0.length : Int)) = false := decide_eq_false c9
     clear c9
     obtain rfl := Option.some.inj H
     go_wp2
     go_ret
     exact ⟨_, by first | rfl | (simp <;> rfl) | (simp [*] <;> rfl), mvR_ HO_4.out, bq1_ HB.out GE169.out⟩
 ·replace c4 := Bool.eq_false_iff.mpr c4
  subst c4
  have H1 : (some ([] : List (S37))) = some r := by rw [if_neg (show ¬ (false = true) by decide)] at H; exact H
  clear H
  have H := H1
  clear H1
  obtain rfl := Option.some.inj H
  go_enter Try.func11, Try.ntmps11
  go_wp2_with (first | ((with_reducible refine gate_dst (N := 2) rfl ?_); refine box_event ?hg (N := 2) ?hd (cs := #[.slice A0_0 l0_0.length c0_0, .int .i64 a0_1, .slice A0_2 l0_2.length c0_2]) (t := 25) ?hr ?_; (case hd => rfl); (case hg => rfl); (case hr => first | (go_simp; done) | (go_simp; rfl)); intro gb169 hg w23 hbox hb; have BK169 := Aside0.mk (hbox); have GW169 := Aside0.mk ((by rw [hg]; exact (below_size (bq0_ HB.out)) : w.heap.size ≤ gb169)); have GE169 := Aside0.mk ((by rw [hg]; exact (below_size (bq0_ HB.out)) : w.heap.size ≤ gb169)); replace HB := Aside0.mk (below_step (bq0_ HB.out) hb); clear hb hbox hg; have hcz24_0 := hc_ BK169 0; have hcz24_1 := hc_ BK169 1; have hcz24_2 := hc_ BK169 2; have hfz24_0 := blk_frozen BK169.out 0; have hfz24_1 := blk_frozen BK169.out 1; have hfz24_2 := blk_frozen BK169.out 2) | ((with_reducible refine gate_callee (f := 9) rfl ?_); refine gL_ (some 10) Try.func9 #[.agg #[.slice A0_0 l0_0.length c0_0, .int .i64 a0_1, .slice A0_2 l0_2.length c0_2]] ?_; (with_reducible refine (store_Check.calls k _ _ l0_0 a0_1 _ _ l0_2 false _ ?side1 ?side2 ?side3 ?side4 A3.out).mono ?_); (case side1 => exact mvC_ ((Kd.C_below HR0_0.out HB.out))); (case side2 => exact HC0_0.out); (case side3 => exact mvC_ ((Kd.C_below HR0_2.out HB.out))); (case side4 => exact HC0_2.out); rintro e w25 ⟨rfl, hb⟩; refine ⟨_, rfl, ?_⟩; replace BK169 := Aside0.mk (blk_below (g := gb169) (o := .cells #[.slice A0_0 l0_0.length c0_0, .int .i64 a0_1, .slice A0_2 l0_2.length c0_2] 25 (0, 0)) (mvK_ BK169.out) hb); replace HB := Aside0.mk (below_step (bq1_ HB.out GE169.out) hb); (try clear hb)))
  go_ret
  exact ⟨_, by first | rfl | (simp <;> rfl) | (simp [*] <;> rfl), by first | exact Kd.R_nil _ _ _ _ _ | exact Kd.N_nil _ _ _ _ _ | exact Kd.V_nil _ _ _ _ _ | exact Kd.Q_nil _ _ _ _ _ | exact Kd.S_nil _ _ _ _ _, bq1_ HB.out GE169.out⟩
def store_Read.f (k : Nat) (l0_0 : List (List (S74))) (a0_1 : Int) (l0_2 : List Int) (a1 : Int) (a2 : Int) : Option (List Int × List Int × Bool) := (store_param.f a1).bind fun t185 => (if t185 = true then ((store_Check.f k l0_0 a0_1 l0_2).bind fun t186 => (if t186 = true then (if 0 ≤ a1 then (if a1 < (l0_0.length : Int) then ((chain_Read.f k (rd_L4 l0_0 a1) a2).bind fun bt188 => (some (bt188.1, bt188.2.1, bt188.2.2))) else (none)) else (none)) else (some (([] : List Int), ([] : List Int), false)))) else (some (([] : List Int), ([] : List Int), false)))
theorem store_Read.mono : ∀ a0 a1 a2 a3 a4 k, LeO (store_Read.f k a0 a1 a2 a3 a4) (store_Read.f (k + 1) a0 a1 a2 a3 a4) := by
 intro a0 a1 a2 a3 a4 k
 unfold store_Read.f
 repeat' first
  | (with_reducible first | exact chain_Read.mono _ _ _ | exact store_Check.mono _ _ _ _ | exact LeO.refl _ | exact LeO.none _ | refine LeO.ite ?_ ?_ | refine LeO.bind ?_ (fun _ => ?_))
  | first | exact chain_Read.mono _ _ _ | exact store_Check.mono _ _ _ _ | exact LeO.none _ | refine LeO.ite ?_ ?_ | refine LeO.bind ?_ (fun _ => ?_)
set_option maxHeartbeats 8000000 in
set_option maxRecDepth 100000 in
theorem store_Read.calls (k : Nat) (A0_0 : Option Addr) (c0_0 : Nat) (l0_0 : List (List (S74))) (a0_1 : Int) (A0_2 : Option Addr) (c0_2 : Nat) (l0_2 : List Int) (a1 : Int) (a2 : Int) (r1 : List Int) (r2 : List Int) (r3 : Bool) (w : World) (hr0_0 : Kd.C (Kd.slice 74 k74) w A0_0 l0_0.length l0_0) (hc0_0 : l0_0.length ≤ c0_0) (hr0_2 : Kd.C (Kd.int .i64) w A0_2 l0_2.length l0_2) (hc0_2 : l0_2.length ≤ c0_2) (h : store_Read.f k l0_0 a0_1 l0_2 a1 a2 = some (r1, r2, r3)) :
  Calls Try.prog 13 #[.agg #[.slice A0_0 l0_0.length c0_0, .int .i64 a0_1, .slice A0_2 l0_2.length c0_2], .int .i64 a1, .int .i64 a2] w fun e w' => ∃ v0_ v1_ : Value, e = .returned (.tuple #[.agg #[v0_, v1_], .bool r3]) ∧ Kd.R (Kd.int .i64) 3 w' w.heap.size (fun k_ => some k_ ≠ (v1_ : Value).ownBlock) v0_ r1 ∧ Kd.R (Kd.int .i64) 3 w' w.heap.size (fun k_ => some k_ ≠ (v0_ : Value).ownBlock) v1_ r2 ∧ Below w.heap.size w w' := by
 have hu25 := Try.underlying25
 have hu37 := Try.underlying37
 have HR0_0 := Aside0.mk hr0_0
 have HC0_0 := Aside0.mk hc0_0
 clear hr0_0 hc0_0
 have HR0_2 := Aside0.mk hr0_2
 have HC0_2 := Aside0.mk hc0_2
 clear hr0_2 hc0_2
 have HB := Aside0.mk (Below.refl w.heap.size w)
 have H : ((store_param.f a1).bind fun t185 => (if t185 = true then ((store_Check.f k l0_0 a0_1 l0_2).bind fun t186 => (if t186 = true then (if 0 ≤ a1 then (if a1 < (l0_0.length : Int) then ((chain_Read.f k (rd_L4 l0_0 a1) a2).bind fun bt188 => (some (bt188.1, bt188.2.1, bt188.2.2))) else (none)) else (none)) else (some (([] : List Int), ([] : List Int), false)))) else (some (([] : List Int), ([] : List Int), false)))) = some (r1, r2, r3) := h
 clear h
 replace H := Option.bind_eq_some_iff.mp H
 obtain ⟨t185, A40, H⟩ := H
 replace H : (if t185 = true then ((store_Check.f k l0_0 a0_1 l0_2).bind fun t186 => (if t186 = true then (if 0 ≤ a1 then (if a1 < (l0_0.length : Int) then ((chain_Read.f k (rd_L4 l0_0 a1) a2).bind fun bt188 => (some (bt188.1, bt188.2.1, bt188.2.2))) else (none)) else (none)) else (some (([] : List Int), ([] : List Int), false)))) else (some (([] : List Int), ([] : List Int), false))) = some (r1, r2, r3) := H
 have A4 := Aside0.mk A40
 clear A40
 by_cases c5 : t185 = true
 ·subst c5
  have H1 : ((store_Check.f k l0_0 a0_1 l0_2).bind fun t186 => (if t186 = true then (if 0 ≤ a1 then (if a1 < (l0_0.length : Int) then ((chain_Read.f k (rd_L4 l0_0 a1) a2).bind fun bt188 => (some (bt188.1, bt188.2.1, bt188.2.2))) else (none)) else (none)) else (some (([] : List Int), ([] : List Int), false)))) = some (r1, r2, r3) := by rw [if_pos rfl] at H; exact H
  clear H
  have H := H1
  clear H1
  replace H := Option.bind_eq_some_iff.mp H
  obtain ⟨t186, A60, H⟩ := H
  replace H : (if t186 = true then (if 0 ≤ a1 then (if a1 < (l0_0.length : Int) then ((chain_Read.f k (rd_L4 l0_0 a1) a2).bind fun bt188 => (some (bt188.1, bt188.2.1, bt188.2.2))) else (none)) else (none)) else (some (([] : List Int), ([] : List Int), false))) = some (r1, r2, r3) := H
  have A6 := Aside0.mk A60
  clear A60
  by_cases c7 : t186 = true
  ·subst c7
   have H1 : (if 0 ≤ a1 then (if a1 < (l0_0.length : Int) then ((chain_Read.f k (rd_L4 l0_0 a1) a2).bind fun bt188 => (some (bt188.1, bt188.2.1, bt188.2.2))) else (none)) else (none)) = some (r1, r2, r3) := by rw [if_pos rfl] at H; exact H
   clear H
   have H := H1
   clear H1
   by_cases c8 : 0 ≤ a1
   ·rw [if_pos c8] at H
    have c8b0 : decide (0 ≤ a1) = true := decide_eq_true c8
    clear c8
    by_cases c9 : a1 < (l0_0.length : Int)
    ·rw [if_pos c9] at H
     have c9b0 : decide (a1 < (l0_0.length : Int)) = true := decide_eq_true c9
     clear c9
     replace H := Option.bind_eq_some_iff.mp H
     obtain ⟨⟨t188, t191, t194⟩, A100, H⟩ := H
     replace H : (some (t188, t191, t194)) = some (r1, r2, r3) := H
     have A10 := Aside0.mk A100
     clear A100
     simp only [Option.some.injEq, Prod.mk.injEq] at H
     obtain ⟨rfl, rfl, rfl⟩ := H
     go_enter Try.func13, Try.ntmps13
     go_wp2_with (first | ((with_reducible refine gate_dst (N := 3) rfl ?_); refine box_event ?hg (N := 3) ?hd (cs := #[.slice A0_0 l0_0.length c0_0, .int .i64 a0_1, .slice A0_2 l0_2.length c0_2]) (t := 25) ?hr ?_; (case hd => rfl); (case hg => rfl); (case hr => first | (go_simp; done) | (go_simp; rfl)); intro gb183 hg w11 hbox hb; have BK183 := Aside0.mk (hbox); have GW183 := Aside0.mk ((by rw [hg]; exact (below_size (bq0_ HB.out)) : w.heap.size ≤ gb183)); have GE183 := Aside0.mk ((by rw [hg]; exact (below_size (bq0_ HB.out)) : w.heap.size ≤ gb183)); replace HB := Aside0.mk (below_step (bq0_ HB.out) hb); clear hb hbox hg) | ((with_reducible refine gate_dst (N := 6) rfl ?_); refine box_event ?hg (N := 6) ?hd (cs := #[.slice none 0 0, .slice none 0 0]) (t := 37) ?hr ?_; (case hd => rfl); (case hg => rfl); (case hr => first | (go_simp; done) | (go_simp; rfl)); intro gb184 hg w12 hbox hb; have BK184 := Aside0.mk (hbox); have GW184 := Aside0.mk ((by rw [hg]; exact (below_size (bq1_ HB.out GE183.out)) : w.heap.size ≤ gb184)); have GE184 := Aside0.mk ((by rw [hg]; exact (below_size (bq1_ HB.out GE183.out)) : w.heap.size ≤ gb184)); have NB183_184 := Aside0.mk ((by rw [hg]; exact Nat.ne_of_lt (blk_lt (g := gb183) (o := .cells #[.slice A0_0 l0_0.length c0_0, .int .i64 a0_1, .slice A0_2 l0_2.length c0_2] 25 (0, 0)) (mvK_ BK183.out)) : gb183 ≠ gb184)); have NB184_183 := Aside0.mk ((by rw [hg]; exact Nat.ne_of_gt (blk_lt (g := gb183) (o := .cells #[.slice A0_0 l0_0.length c0_0, .int .i64 a0_1, .slice A0_2 l0_2.length c0_2] 25 (0, 0)) (mvK_ BK183.out)) : gb184 ≠ gb183)); replace BK183 := Aside0.mk (blk_below (g := gb183) (o := .cells #[.slice A0_0 l0_0.length c0_0, .int .i64 a0_1, .slice A0_2 l0_2.length c0_2] 25 (0, 0)) (mvK_ BK183.out) hb); replace HB := Aside0.mk (below_step (bq1_ HB.out GE183.out) hb); clear hb hbox hg) | ((with_reducible refine gate_callee (f := 37) rfl ?_); refine gL_ (some 9) Try.func37 #[.int .i64 a1] ?_; (with_reducible refine (store_param.calls a1 true _ A4.out).mono ?_); rintro e w' ⟨rfl, ⟨nd, rfl⟩⟩; refine ⟨_, rfl, ?_⟩; (try (rw [drewN_self w12]; generalize hq_ : World.drewN w12 _ = w12; have n0_ : Aside0 (w12.heap[gb183]? = some (.cells #[.slice A0_0 l0_0.length c0_0, .int .i64 a0_1, .slice A0_2 l0_2.length c0_2] 25 (0, 0))) := ⟨by rw [← hq_]; exact (mvK_ BK183.out)⟩; have n1_ : Aside0 (w12.heap[gb184]? = some (.cells #[.slice none 0 0, .slice none 0 0] 37 (0, 0))) := ⟨by rw [← hq_]; exact (mvK_ BK184.out)⟩; have n2_ : Aside0 (Below w.heap.size w w12) := ⟨by rw [← hq_]; exact (bq2_ HB.out GE183.out GE184.out)⟩; clear BK183 BK184 HB hq_; have BK183 := n0_; have BK184 := n1_; have HB := n2_; clear n0_ n1_ n2_)); have hnb13 := NB183_184.out; have hnc13 := NB184_183.out; have hcz14_0 := hc_ BK183 0; have hcz14_1 := hc_ BK183 1; have hcz14_2 := hc_ BK183 2; have hfz14_0 := blk_frozen BK183.out 0; have hfz14_1 := blk_frozen BK183.out 1; have hfz14_2 := blk_frozen BK183.out 2) | (go_at_call 9; (with_reducible refine (store_Check.calls k _ _ l0_0 a0_1 _ _ l0_2 true _ ?side1 ?side2 ?side3 ?side4 A6.out).mono ?_); (case side1 => exact mvC_ ((Kd.C_below HR0_0.out HB.out))); (case side2 => exact HC0_0.out); (case side3 => exact mvC_ ((Kd.C_below HR0_2.out HB.out))); (case side4 => exact HC0_2.out); rintro e w15 ⟨rfl, hb⟩; replace BK183 := Aside0.mk (blk_below (g := gb183) (o := .cells #[.slice A0_0 l0_0.length c0_0, .int .i64 a0_1, .slice A0_2 l0_2.length c0_2] 25 (0, 0)) (mvK_ BK183.out) hb); replace BK184 := Aside0.mk (blk_below (g := gb184) (o := .cells #[.slice none 0 0, .slice none 0 0] 37 (0, 0)) (mvK_ BK184.out) hb); replace HB := Aside0.mk (below_step (bq2_ HB.out GE183.out GE184.out) hb); (try clear hb); have hcz16_0 := hc_ BK183 0; have hcz16_1 := hc_ BK183 1; have hcz16_2 := hc_ BK183 2; have hfz16_0 := blk_frozen BK183.out 0; have hfz16_1 := blk_frozen BK183.out 1; have hfz16_2 := blk_frozen BK183.out 2; have p187 : 0 ≤ (a1 : Int) := od_; have q187 : a1 < (l0_0.length : Int) := od_; obtain ⟨ad187, A187_0, c187_0, e187, hx187_0, hl187_0, hi187_0⟩ := at_L4 HR0_0.out a1 p187 q187; cases e187; replace hx187_0 := hb_ HB hx187_0; have HR187_0 := Aside0.mk hi187_0; have HC187_0 := Aside0.mk hl187_0; clear hi187_0 hl187_0; replace p187 := eq_true p187; replace q187 := eq_true q187) | ((with_reducible refine gate_callee (f := 35) rfl ?_); refine gL_ (some 23) Try.func35 #[.slice A187_0 (rd_L4 l0_0 a1).length c187_0, .int .i64 a2] ?_; (with_reducible refine (chain_Read.calls k _ _ (rd_L4 l0_0 a1) a2 t188 t191 t194 _ ?side1 ?side2 A10.out).mono ?_); (case side1 => exact mvC_ ((Kd.C_below HR187_0.out HB.out))); (case side2 => exact HC187_0.out); rintro e w17 ⟨v189, v192, rfl, ho0, ho1, hb⟩; refine ⟨_, rfl, ?_⟩; have HO190 := Aside0.mk (Kd.R_lower ho0 (below_size (bq2_ HB.out GE183.out GE184.out))); have HO193 := Aside0.mk (Kd.R_lower ho1 (below_size (bq2_ HB.out GE183.out GE184.out))); replace BK183 := Aside0.mk (blk_below (g := gb183) (o := .cells #[.slice (some ad187) l0_0.length c0_0, .int .i64 a0_1, .slice A0_2 l0_2.length c0_2] 25 (0, 0)) (mvK_ BK183.out) hb); replace BK184 := Aside0.mk (blk_below (g := gb184) (o := .cells #[.slice none 0 0, .slice none 0 0] 37 (0, 0)) (mvK_ BK184.out) hb); replace HB := Aside0.mk (below_step (bq2_ HB.out GE183.out GE184.out) hb); (try clear hb); (try clear ho0); (try clear ho1); obtain ⟨Ao18, co18, eo18⟩ := Kd.R_slice HO190.out; subst eo18; have hcz19_0 := hc_ BK184 0; have hcz19_1 := hc_ BK184 1; have hfz19_0 := blk_frozen BK184.out 0; have hfz19_1 := blk_frozen BK184.out 1; obtain ⟨Ao20, co20, eo20⟩ := Kd.R_slice HO193.out; subst eo20))
     refine bodyPost_ret (results_ct rfl _ _ gb184 37 #[.slice Ao18 t188.length co18, .slice Ao20 t191.length co20] (0, 0) _ rfl (by (with_reducible repeat (first | refine blk_drewN ?_ _ | refine blk_drew ?_ | refine blk_alloc ?_ _)); refine blk_put (cs := #[.slice Ao18 t188.length co18, .slice none 0 0]) ?_ 1 _ rfl; (with_reducible repeat (first | refine blk_drewN ?_ _ | refine blk_drew ?_ | refine blk_alloc ?_ _)); refine blk_put (cs := #[.slice none 0 0, .slice none 0 0]) ?_ 0 _ rfl; (with_reducible repeat (first | refine blk_drewN ?_ _ | refine blk_drew ?_ | refine blk_alloc ?_ _)); exact BK184.out) Try.underlying37 rfl (by kernel_rfl)) rfl ?_
     exact ⟨_, _, by first | rfl | (simp <;> rfl) | (simp [*] <;> rfl), by (with_reducible repeat (first | apply Kd.R_alloc | apply Kd.R_drewN | apply Kd.R_drew)); exact Kd.R_mono (Kd.R_far (p := ⟨gb184, 1, none⟩) (Kd.R_far (p := ⟨gb184, 0, none⟩) (Kd.R_types HO190.out BK184.out (by decide)) (fun _ hk => hk.2) (.slice Ao18 t188.length co18)) (fun _ hk => hk.2) (.slice Ao20 t191.length co20)) (fun _ hk => hk.1), by (with_reducible repeat (first | apply Kd.R_alloc | apply Kd.R_drewN | apply Kd.R_drew)); exact Kd.R_mono (Kd.R_far (p := ⟨gb184, 1, none⟩) (Kd.R_far (p := ⟨gb184, 0, none⟩) (Kd.R_types HO193.out BK184.out (by decide)) (fun _ hk => hk.2) (.slice Ao18 t188.length co18)) (fun _ hk => hk.2) (.slice Ao20 t191.length co20)) (fun _ hk => hk.1), bq2_ HB.out GE183.out GE184.out⟩
    ·rw [if_neg c9] at H
     exact absurd H (by simp)
   ·rw [if_neg c8] at H
    exact absurd H (by simp)
  ·replace c7 := Bool.eq_false_iff.mpr c7
   subst c7
   have H1 : (some (([] : List Int), ([] : List Int), false)) = some (r1, r2, r3) := by rw [if_neg (show ¬ (false = true) by decide)] at H; exact H
   clear H
   have H := H1
   clear H1
   simp only [Option.some.injEq, Prod.mk.injEq] at H
   obtain ⟨rfl, rfl, rfl⟩ := H
   go_enter Try.func13, Try.ntmps13
   go_wp2_with (first | ((with_reducible refine gate_dst (N := 3) rfl ?_); refine box_event ?hg (N := 3) ?hd (cs := #[.slice A0_0 l0_0.length c0_0, .int .i64 a0_1, .slice A0_2 l0_2.length c0_2]) (t := 25) ?hr ?_; (case hd => rfl); (case hg => rfl); (case hr => first | (go_simp; done) | (go_simp; rfl)); intro gb183 hg w21 hbox hb; have BK183 := Aside0.mk (hbox); have GW183 := Aside0.mk ((by rw [hg]; exact (below_size (bq0_ HB.out)) : w.heap.size ≤ gb183)); have GE183 := Aside0.mk ((by rw [hg]; exact (below_size (bq0_ HB.out)) : w.heap.size ≤ gb183)); replace HB := Aside0.mk (below_step (bq0_ HB.out) hb); clear hb hbox hg) | ((with_reducible refine gate_dst (N := 6) rfl ?_); refine box_event ?hg (N := 6) ?hd (cs := #[.slice none 0 0, .slice none 0 0]) (t := 37) ?hr ?_; (case hd => rfl); (case hg => rfl); (case hr => first | (go_simp; done) | (go_simp; rfl)); intro gb184 hg w22 hbox hb; have BK184 := Aside0.mk (hbox); have GW184 := Aside0.mk ((by rw [hg]; exact (below_size (bq1_ HB.out GE183.out)) : w.heap.size ≤ gb184)); have GE184 := Aside0.mk ((by rw [hg]; exact (below_size (bq1_ HB.out GE183.out)) : w.heap.size ≤ gb184)); have NB183_184 := Aside0.mk ((by rw [hg]; exact Nat.ne_of_lt (blk_lt (g := gb183) (o := .cells #[.slice A0_0 l0_0.length c0_0, .int .i64 a0_1, .slice A0_2 l0_2.length c0_2] 25 (0, 0)) (mvK_ BK183.out)) : gb183 ≠ gb184)); have NB184_183 := Aside0.mk ((by rw [hg]; exact Nat.ne_of_gt (blk_lt (g := gb183) (o := .cells #[.slice A0_0 l0_0.length c0_0, .int .i64 a0_1, .slice A0_2 l0_2.length c0_2] 25 (0, 0)) (mvK_ BK183.out)) : gb184 ≠ gb183)); replace BK183 := Aside0.mk (blk_below (g := gb183) (o := .cells #[.slice A0_0 l0_0.length c0_0, .int .i64 a0_1, .slice A0_2 l0_2.length c0_2] 25 (0, 0)) (mvK_ BK183.out) hb); replace HB := Aside0.mk (below_step (bq1_ HB.out GE183.out) hb); clear hb hbox hg) | ((with_reducible refine gate_callee (f := 37) rfl ?_); refine gL_ (some 9) Try.func37 #[.int .i64 a1] ?_; (with_reducible refine (store_param.calls a1 true _ A4.out).mono ?_); rintro e w' ⟨rfl, ⟨nd, rfl⟩⟩; refine ⟨_, rfl, ?_⟩; (try (rw [drewN_self w22]; generalize hq_ : World.drewN w22 _ = w22; have n0_ : Aside0 (w22.heap[gb183]? = some (.cells #[.slice A0_0 l0_0.length c0_0, .int .i64 a0_1, .slice A0_2 l0_2.length c0_2] 25 (0, 0))) := ⟨by rw [← hq_]; exact (mvK_ BK183.out)⟩; have n1_ : Aside0 (w22.heap[gb184]? = some (.cells #[.slice none 0 0, .slice none 0 0] 37 (0, 0))) := ⟨by rw [← hq_]; exact (mvK_ BK184.out)⟩; have n2_ : Aside0 (Below w.heap.size w w22) := ⟨by rw [← hq_]; exact (bq2_ HB.out GE183.out GE184.out)⟩; clear BK183 BK184 HB hq_; have BK183 := n0_; have BK184 := n1_; have HB := n2_; clear n0_ n1_ n2_)); have hnb23 := NB183_184.out; have hnc23 := NB184_183.out; have hcz24_0 := hc_ BK183 0; have hcz24_1 := hc_ BK183 1; have hcz24_2 := hc_ BK183 2; have hfz24_0 := blk_frozen BK183.out 0; have hfz24_1 := blk_frozen BK183.out 1; have hfz24_2 := blk_frozen BK183.out 2) | (go_at_call 9; (with_reducible refine (store_Check.calls k _ _ l0_0 a0_1 _ _ l0_2 false _ ?side1 ?side2 ?side3 ?side4 A6.out).mono ?_); (case side1 => exact mvC_ ((Kd.C_below HR0_0.out HB.out))); (case side2 => exact HC0_0.out); (case side3 => exact mvC_ ((Kd.C_below HR0_2.out HB.out))); (case side4 => exact HC0_2.out); rintro e w25 ⟨rfl, hb⟩; replace BK183 := Aside0.mk (blk_below (g := gb183) (o := .cells #[.slice A0_0 l0_0.length c0_0, .int .i64 a0_1, .slice A0_2 l0_2.length c0_2] 25 (0, 0)) (mvK_ BK183.out) hb); replace BK184 := Aside0.mk (blk_below (g := gb184) (o := .cells #[.slice none 0 0, .slice none 0 0] 37 (0, 0)) (mvK_ BK184.out) hb); replace HB := Aside0.mk (below_step (bq2_ HB.out GE183.out GE184.out) hb); (try clear hb); have hcz26_0 := hc_ BK184 0; have hcz26_1 := hc_ BK184 1; have hfz26_0 := blk_frozen BK184.out 0; have hfz26_1 := blk_frozen BK184.out 1))
   refine bodyPost_ret (results_ct rfl _ _ gb184 37 #[.slice none 0 0, .slice none 0 0] (0, 0) _ rfl (by (with_reducible repeat (first | refine blk_drewN ?_ _ | refine blk_drew ?_ | refine blk_alloc ?_ _)); refine blk_put (cs := #[.slice none 0 0, .slice none 0 0]) ?_ 1 _ rfl; (with_reducible repeat (first | refine blk_drewN ?_ _ | refine blk_drew ?_ | refine blk_alloc ?_ _)); refine blk_put (cs := #[.slice none 0 0, .slice none 0 0]) ?_ 0 _ rfl; (with_reducible repeat (first | refine blk_drewN ?_ _ | refine blk_drew ?_ | refine blk_alloc ?_ _)); exact BK184.out) Try.underlying37 rfl (by kernel_rfl)) rfl ?_
   exact ⟨_, _, by first | rfl | (simp <;> rfl) | (simp [*] <;> rfl), by first | exact Kd.R_nil _ _ _ _ _ | exact Kd.N_nil _ _ _ _ _ | exact Kd.V_nil _ _ _ _ _ | exact Kd.Q_nil _ _ _ _ _ | exact Kd.S_nil _ _ _ _ _, by first | exact Kd.R_nil _ _ _ _ _ | exact Kd.N_nil _ _ _ _ _ | exact Kd.V_nil _ _ _ _ _ | exact Kd.Q_nil _ _ _ _ _ | exact Kd.S_nil _ _ _ _ _, bq2_ HB.out GE183.out GE184.out⟩
 ·replace c5 := Bool.eq_false_iff.mpr c5
  subst c5
  have H1 : (some (([] : List Int), ([] : List Int), false)) = some (r1, r2, r3) := by rw [if_neg (show ¬ (false = true) by decide)] at H; exact H
  clear H
  have H := H1
  clear H1
  simp only [Option.some.injEq, Prod.mk.injEq] at H
  obtain ⟨rfl, rfl, rfl⟩ := H
  go_enter Try.func13, Try.ntmps13
  go_wp2_with (first | ((with_reducible refine gate_dst (N := 3) rfl ?_); refine box_event ?hg (N := 3) ?hd (cs := #[.slice A0_0 l0_0.length c0_0, .int .i64 a0_1, .slice A0_2 l0_2.length c0_2]) (t := 25) ?hr ?_; (case hd => rfl); (case hg => rfl); (case hr => first | (go_simp; done) | (go_simp; rfl)); intro gb183 hg w27 hbox hb; have BK183 := Aside0.mk (hbox); have GW183 := Aside0.mk ((by rw [hg]; exact (below_size (bq0_ HB.out)) : w.heap.size ≤ gb183)); have GE183 := Aside0.mk ((by rw [hg]; exact (below_size (bq0_ HB.out)) : w.heap.size ≤ gb183)); replace HB := Aside0.mk (below_step (bq0_ HB.out) hb); clear hb hbox hg) | ((with_reducible refine gate_dst (N := 6) rfl ?_); refine box_event ?hg (N := 6) ?hd (cs := #[.slice none 0 0, .slice none 0 0]) (t := 37) ?hr ?_; (case hd => rfl); (case hg => rfl); (case hr => first | (go_simp; done) | (go_simp; rfl)); intro gb184 hg w28 hbox hb; have BK184 := Aside0.mk (hbox); have GW184 := Aside0.mk ((by rw [hg]; exact (below_size (bq1_ HB.out GE183.out)) : w.heap.size ≤ gb184)); have GE184 := Aside0.mk ((by rw [hg]; exact (below_size (bq1_ HB.out GE183.out)) : w.heap.size ≤ gb184)); have NB183_184 := Aside0.mk ((by rw [hg]; exact Nat.ne_of_lt (blk_lt (g := gb183) (o := .cells #[.slice A0_0 l0_0.length c0_0, .int .i64 a0_1, .slice A0_2 l0_2.length c0_2] 25 (0, 0)) (mvK_ BK183.out)) : gb183 ≠ gb184)); have NB184_183 := Aside0.mk ((by rw [hg]; exact Nat.ne_of_gt (blk_lt (g := gb183) (o := .cells #[.slice A0_0 l0_0.length c0_0, .int .i64 a0_1, .slice A0_2 l0_2.length c0_2] 25 (0, 0)) (mvK_ BK183.out)) : gb184 ≠ gb183)); replace BK183 := Aside0.mk (blk_below (g := gb183) (o := .cells #[.slice A0_0 l0_0.length c0_0, .int .i64 a0_1, .slice A0_2 l0_2.length c0_2] 25 (0, 0)) (mvK_ BK183.out) hb); replace HB := Aside0.mk (below_step (bq1_ HB.out GE183.out) hb); clear hb hbox hg) | ((with_reducible refine gate_callee (f := 37) rfl ?_); refine gL_ (some 9) Try.func37 #[.int .i64 a1] ?_; (with_reducible refine (store_param.calls a1 false _ A4.out).mono ?_); rintro e w' ⟨rfl, ⟨nd, rfl⟩⟩; refine ⟨_, rfl, ?_⟩; (try (rw [drewN_self w28]; generalize hq_ : World.drewN w28 _ = w28; have n0_ : Aside0 (w28.heap[gb183]? = some (.cells #[.slice A0_0 l0_0.length c0_0, .int .i64 a0_1, .slice A0_2 l0_2.length c0_2] 25 (0, 0))) := ⟨by rw [← hq_]; exact (mvK_ BK183.out)⟩; have n1_ : Aside0 (w28.heap[gb184]? = some (.cells #[.slice none 0 0, .slice none 0 0] 37 (0, 0))) := ⟨by rw [← hq_]; exact (mvK_ BK184.out)⟩; have n2_ : Aside0 (Below w.heap.size w w28) := ⟨by rw [← hq_]; exact (bq2_ HB.out GE183.out GE184.out)⟩; clear BK183 BK184 HB hq_; have BK183 := n0_; have BK184 := n1_; have HB := n2_; clear n0_ n1_ n2_)); have hnb29 := NB184_183.out; have hnc29 := NB183_184.out; have hcz30_0 := hc_ BK184 0; have hcz30_1 := hc_ BK184 1; have hfz30_0 := blk_frozen BK184.out 0; have hfz30_1 := blk_frozen BK184.out 1))
  refine bodyPost_ret (results_ct rfl _ _ gb184 37 #[.slice none 0 0, .slice none 0 0] (0, 0) _ rfl (by (with_reducible repeat (first | refine blk_drewN ?_ _ | refine blk_drew ?_ | refine blk_alloc ?_ _)); refine blk_put (cs := #[.slice none 0 0, .slice none 0 0]) ?_ 1 _ rfl; (with_reducible repeat (first | refine blk_drewN ?_ _ | refine blk_drew ?_ | refine blk_alloc ?_ _)); refine blk_put (cs := #[.slice none 0 0, .slice none 0 0]) ?_ 0 _ rfl; (with_reducible repeat (first | refine blk_drewN ?_ _ | refine blk_drew ?_ | refine blk_alloc ?_ _)); exact BK184.out) Try.underlying37 rfl (by kernel_rfl)) rfl ?_
  exact ⟨_, _, by first | rfl | (simp <;> rfl) | (simp [*] <;> rfl), by first | exact Kd.R_nil _ _ _ _ _ | exact Kd.N_nil _ _ _ _ _ | exact Kd.V_nil _ _ _ _ _ | exact Kd.Q_nil _ _ _ _ _ | exact Kd.S_nil _ _ _ _ _, by first | exact Kd.R_nil _ _ _ _ _ | exact Kd.N_nil _ _ _ _ _ | exact Kd.V_nil _ _ _ _ _ | exact Kd.Q_nil _ _ _ _ _ | exact Kd.S_nil _ _ _ _ _, bq2_ HB.out GE183.out GE184.out⟩
def store_Pin.f (k : Nat) (l0_0 : List (List S74)) (a0_1 : Int) (l0_2 : List Int) : Option (List (List S74) × Int × List Int × Int × Int) :=
 (store_Check.f k l0_0 a0_1 l0_2).bind fun t => if t = true then (if l0_2.length = 64 then some (l0_0, a0_1, l0_2, 0, 171) else if l0_2.length < 17592186044416 then some (l0_0, a0_1, l0_2 ++ [a0_1], a0_1, 0) else none) else some (l0_0, a0_1, l0_2, 0, 1)
theorem store_Pin.mono : ∀ a0 a1 a2 k, LeO (store_Pin.f k a0 a1 a2) (store_Pin.f (k + 1) a0 a1 a2) := by
 intro a0 a1 a2 k
 unfold store_Pin.f
 exact LeO.bind (store_Check.mono _ _ _ _) (fun _ => LeO.refl _)
theorem results_ctt {P : Program} {fn : Func} {p u v : Tmp} {ty : TypeId} (h : fn.results = #[.cell p ty, .tmp u, .tmp v]) (tmps : Array Value) (w : World) (g : Nat) (t : TypeId) (cs : Array Value) (fr : Nat × Nat) (d : TypeDesc)
  (hp : tmps.getD p undef = .pointer (some ⟨g, 0, none⟩)) (hg : w.heap[g]? = some (.cells cs t fr))
  (hu : P.underlying ty = some d) (hd : (match d with | .struct _ | .array _ _ => true | _ => false) = true) (hi : (P.info? ty).map (·.size) = some cs.size) :
  (results fn tmps).run P w = .ok (.tuple #[.agg cs, tmps.getD u undef, tmps.getD v undef]) w := by
 have hp' : tmps[p]?.getD undef = .pointer (some ⟨g, 0, none⟩) := by simpa using hp
 simp [results, h, hp', asAddr, run_loadVar_row w g t ty cs fr d hg hu hd hi]
theorem olds_C {W : World} {A : Option Addr} {l : List Int} (h : Kd.C (Kd.int .i64) W A l.length l) : (A = none → l.length = 0 ∧ l.length = 0) ∧ ∀ b, A = some b → ∀ j u, (encs (Value.int .i64) l)[j]? = some u → W.cell? (b.add j) = some u := by
 refine ⟨fun hA => ?_, fun b hA j u hu => ?_⟩
 ·by_cases c : l.length = 0
  ·exact ⟨c, c⟩
  ·obtain ⟨ad, e, _⟩ := Kd.at_int h 0 (by omega) (by omega)
   rw [hA] at e; cases e
 ·have hj : j < l.length := by
   have := (List.getElem?_eq_some_iff.1 hu).1
   simpa [encs] using this
  obtain ⟨ad, e, hx⟩ := Kd.at_int h (j : Int) (by omega) (by omega)
  rw [hA] at e
  injection e with e
  subst e
  rw [Int.toNat_natCast] at hx
  rw [hx]
  simp only [encs, List.getElem?_map, List.getElem?_eq_getElem hj, Option.map_some] at hu
  rw [← hu]
  simp [rd, hj]
theorem val_step {P : Program} {ops : Array Oper} {Q : Exit → Act → World → Prop} {oi : Oper} {a : Act} {w w1 : World} {K : Act → World → Prop} {v : Value} {N : Option Tmp} (hw : Region.wanted oi (yielded ops a.tmps) = true) (hN : oi.dst = N) (hrun : (execOp a.eval oi).run P w = .ok (.value v) w1)
  (h : K (a.put N v) w1) : if Region.wanted oi (yielded ops a.tmps) = true then Oper.wp P oi a w K Q else K (a.put N undef) w := by
 rw [if_pos hw]
 unfold Oper.wp
 rw [hrun]
 subst hN
 exact h
theorem pn_lit' {o : Oper} {ev : Operand → Value} (W : World) {x : Operand} {n : Int} (ho : o.op = .buildSlice 23 1 #[(0, x)]) (hx : ev x = .int .i64 n) : (execOp ev o).run Try.prog W = .ok (.value (.slice (some ⟨W.heap.size, 0, none⟩) 1 1)) (W.alloc (.cells #[.int .i64 n] 3)) := by
 obtain ⟨dst, op, type, pos, after, guard⟩ := o
 simp only at ho
 subst ho
 go_simp
theorem pn_lit {o : Oper} {a : Act} (W : World) {x : Operand} {n : Int} (ho : o.op = .buildSlice 23 1 #[(0, x)]) (hx : a.eval x = .int .i64 n) : (execOp a.eval o).run Try.prog W = .ok (.value (.slice (some ⟨W.heap.size, 0, none⟩) 1 1)) (W.alloc (.cells #[.int .i64 n] 3)) := pn_lit' W ho hx
structure StB (w W : World) (g : Nat) (cs cr : Array Value) : Prop where
 bel : Below w.heap.size w W
 ge : w.heap.size ≤ g
 bs : W.heap[g]? = some (.cells cs 25 (0, 0))
 br : W.heap[g + 1]? = some (.cells cr 25 (0, 0))
theorem StB.start (w : World) (cs cr : Array Value) : StB w ((w.alloc (.cells cs 25)).alloc (.cells cr 25)) w.heap.size cs cr := by
 refine ⟨below_alloc (below_alloc (Below.refl _ _) _) _, Nat.le_refl _, blk_alloc (blk_new _ _) _, ?_⟩
 have := blk_new (w.alloc (.cells cs 25)) (.cells cr 25)
 rw [show (w.alloc (.cells cs 25)).heap.size = w.heap.size + 1 by simp] at this
 exact this
theorem StB.below {w W W' : World} {g : Nat} {cs cr : Array Value} (h : StB w W g cs cr) (hb : Below W.heap.size W W') : StB w W' g cs cr := ⟨below_step h.bel hb, h.ge, blk_below h.bs hb, blk_below h.br hb⟩
theorem StB.sput {w W : World} {g : Nat} {cs cr cs' : Array Value} (h : StB w W g cs cr) (i : Nat) (u : Value) (e : cs.setIfInBounds i u = cs') : StB w (W.setCell ⟨g, i, none⟩ u) g cs' cr :=
 ⟨h.bel.setCell (p := ⟨g, i, none⟩) h.ge _, h.ge, blk_put h.bs i u e, (Below.heap_setCell W ⟨g, i, none⟩ u (g + 1) (by simp)).trans h.br⟩
theorem StB.grown {w W W' : World} {g : Nat} {cs cr : Array Value} (h : StB w W g cs cr) (hg : W.grownBy W' none) : StB w W' g cs cr :=
 ⟨h.bel.grown hg h.bel.size (fun k hk => by cases hk), h.ge, blk_grown h.bs hg (by simp), blk_grown h.br hg (by simp)⟩
theorem StB.alloc {w W : World} {g : Nat} {cs cr : Array Value} (h : StB w W g cs cr) (o : Obj) : StB w (W.alloc o) g cs cr := h.below (below_alloc (Below.refl _ _) o)
theorem StB.drew {w W : World} {g : Nat} {cs cr : Array Value} (h : StB w W g cs cr) : StB w W.drew g cs cr := h.below (below_drew1 (Below.refl _ _))
theorem StB.put {w W : World} {g : Nat} {cs cr cr' : Array Value} (h : StB w W g cs cr) (i : Nat) (u : Value) (e : cr.setIfInBounds i u = cr') : StB w (W.setCell ⟨g + 1, i, none⟩ u) g cs cr' :=
 ⟨h.bel.setCell (p := ⟨g + 1, i, none⟩) (Nat.le_succ_of_le h.ge) _, h.ge, (Below.heap_setCell W ⟨g + 1, i, none⟩ u g (by simp)).trans h.bs, blk_put h.br i u e⟩
set_option maxHeartbeats 8000000 in
set_option maxRecDepth 100000 in
theorem store_Pin.calls (k : Nat) (P0_0_ : Nat → Prop) (A0_0 : Option Addr) (c0_0 : Nat) (l0_0 : List (List S74)) (a0_1 : Int) (P0_2_ : Nat → Prop) (A0_2 : Option Addr) (c0_2 : Nat) (l0_2 : List Int) (r1 : List (List S74)) (r2 : Int) (r3 : List Int) (r4 : Int) (r5 : Int) (w : World) (hs0_0 : Kd.V (Kd.slice 74 k74) 54 w w.heap.size (fun k_ => P0_0_ k_) (.slice A0_0 l0_0.length c0_0) l0_0) (hs0_2 : Kd.V (Kd.int .i64) 3 w w.heap.size (fun k_ => P0_2_ k_) (.slice A0_2 l0_2.length c0_2) l0_2) (h : store_Pin.f k l0_0 a0_1 l0_2 = some (r1, r2, r3, r4, r5)) :
  Calls Try.prog 16 #[.agg #[.slice A0_0 l0_0.length c0_0, .int .i64 a0_1, .slice A0_2 l0_2.length c0_2]] w fun e w' => ∃ v0_ v2_ : Value, e = .returned (.tuple #[.agg #[v0_, .int .i64 r2, v2_], .int .i64 r4, .int .i64 r5]) ∧ Kd.V (Kd.slice 74 k74) 54 w' w.heap.size (fun k_ => ((P0_0_ k_ ∨ P0_2_ k_) ∨ w.heap.size ≤ k_)) v0_ r1 ∧ Kd.V (Kd.int .i64) 3 w' w.heap.size (fun k_ => ((P0_0_ k_ ∨ P0_2_ k_) ∨ w.heap.size ≤ k_)) v2_ r3 ∧ Below w.heap.size w w' := by
 have hu25 := Try.underlying25
 have hR0 := Kd.V_reads' hs0_0
 have hR2 := Kd.V_reads' hs0_2
 have HV0 := Aside0.mk (show ∀ W : World, Below w.heap.size w W → Kd.V (Kd.slice 74 k74) 54 W w.heap.size (fun k_ => ((P0_0_ k_ ∨ P0_2_ k_) ∨ w.heap.size ≤ k_)) (.slice A0_0 l0_0.length c0_0) l0_0 from fun W hW => Kd.V_mono (Kd.V_below hs0_0 hW) (fun _ hk => .inl (.inl hk)))
 have HV2 := Aside0.mk (show ∀ W : World, Below w.heap.size w W → Kd.V (Kd.int .i64) 3 W w.heap.size (fun k_ => ((P0_0_ k_ ∨ P0_2_ k_) ∨ w.heap.size ≤ k_)) (.slice A0_2 l0_2.length c0_2) l0_2 from fun W hW => Kd.V_mono (Kd.V_below hs0_2 hW) (fun _ hk => .inl (.inr hk)))
 have HR0 := Aside0.mk hR0.2.2
 have HC0 := Aside0.mk hR0.2.1
 have HR2 := Aside0.mk hR2.2.2
 have HC2 := Aside0.mk hR2.2.1
 clear hs0_0 hs0_2 hR0 hR2
 unfold store_Pin.f at h
 obtain ⟨t, ht, h⟩ := Option.bind_eq_some_iff.mp h
 have HT := Aside0.mk ht
 clear ht
 cases t with
 | false =>
  rw [if_neg (by decide)] at h
  simp only [Option.some.injEq, Prod.mk.injEq] at h
  obtain ⟨rfl, rfl, rfl, rfl, rfl⟩ := h
  have HS := Aside0.mk (StB.start w #[.slice A0_0 l0_0.length c0_0, .int .i64 a0_1, .slice A0_2 l0_2.length c0_2] #[.slice none 0 0, .int .i64 0, .slice none 0 0])
  have z0 := (blk_cell HS.out.bs 0).trans rfl
  have z1 := (blk_cell HS.out.bs 1).trans rfl
  have z2 := (blk_cell HS.out.bs 2).trans rfl
  go_enter Try.func16, Try.ntmps16
  go_wp2_with (go_at_call 9; refine (store_Check.calls k A0_0 c0_0 l0_0 a0_1 A0_2 c0_2 l0_2 false _ ?s1 HC0.out ?s2 HC2.out HT.out).mono ?_; (case s1 => exact Kd.C_alloc (Kd.C_alloc HR0.out _) _); (case s2 => exact Kd.C_alloc (Kd.C_alloc HR2.out _) _); rintro e w2 ⟨rfl, hd⟩; have HS2 := Aside0.mk (HS.out.below hd); have x0 := (blk_cell HS2.out.bs 0).trans rfl; have x1 := (blk_cell HS2.out.bs 1).trans rfl; have x2 := (blk_cell HS2.out.bs 2).trans rfl; have y0 := (blk_cell HS2.out.br 0).trans rfl; have y1 := (blk_cell HS2.out.br 1).trans rfl; have y2 := (blk_cell HS2.out.br 2).trans rfl; have f0 := blk_frozen HS2.out.br 0; have f1 := blk_frozen HS2.out.br 1; have f2 := blk_frozen HS2.out.br 2; clear hd)
  have HF := Aside0.mk (((HS2.out.put 0 (.slice A0_0 l0_0.length c0_0) rfl).put 1 (.int .i64 a0_1) rfl).put 2 (.slice A0_2 l0_2.length c0_2) rfl)
  refine bodyPost_ret (results_ctt rfl _ _ (w.heap.size + 1) 25 #[.slice A0_0 l0_0.length c0_0, .int .i64 a0_1, .slice A0_2 l0_2.length c0_2] (0, 0) _ rfl HF.out.br Try.underlying25 rfl (by kernel_rfl)) rfl ?_
  exact ⟨_, _, rfl, HV0.out _ HF.out.bel, HV2.out _ HF.out.bel, HF.out.bel⟩
 | true =>
  rw [if_pos rfl] at h
  have HS := Aside0.mk (StB.start w #[.slice A0_0 l0_0.length c0_0, .int .i64 a0_1, .slice A0_2 l0_2.length c0_2] #[.slice none 0 0, .int .i64 0, .slice none 0 0])
  have z0 := (blk_cell HS.out.bs 0).trans rfl
  have z1 := (blk_cell HS.out.bs 1).trans rfl
  have z2 := (blk_cell HS.out.bs 2).trans rfl
  by_cases hl : l0_2.length = 64
  ·rw [if_pos hl] at h
   simp only [Option.some.injEq, Prod.mk.injEq] at h
   obtain ⟨rfl, rfl, rfl, rfl, rfl⟩ := h
   have b0 : ((l0_2.length : Int) == 64) = true := beq_iff_eq.mpr (by omega)
   have b1 : (l0_2.length == 64) = true := beq_iff_eq.mpr hl
   clear hl
   go_enter Try.func16, Try.ntmps16
   go_wp2_with (go_at_call 9; refine (store_Check.calls k A0_0 c0_0 l0_0 a0_1 A0_2 c0_2 l0_2 true _ ?s1 HC0.out ?s2 HC2.out HT.out).mono ?_; (case s1 => exact Kd.C_alloc (Kd.C_alloc HR0.out _) _); (case s2 => exact Kd.C_alloc (Kd.C_alloc HR2.out _) _); rintro e w2 ⟨rfl, hd⟩; have HS2 := Aside0.mk (HS.out.below hd); have x0 := (blk_cell HS2.out.bs 0).trans rfl; have x1 := (blk_cell HS2.out.bs 1).trans rfl; have x2 := (blk_cell HS2.out.bs 2).trans rfl; have y0 := (blk_cell HS2.out.br 0).trans rfl; have y1 := (blk_cell HS2.out.br 1).trans rfl; have y2 := (blk_cell HS2.out.br 2).trans rfl; have f0 := blk_frozen HS2.out.br 0; have f1 := blk_frozen HS2.out.br 1; have f2 := blk_frozen HS2.out.br 2; clear hd)
   have HF := Aside0.mk (((HS2.out.put 0 (.slice A0_0 l0_0.length c0_0) rfl).put 1 (.int .i64 a0_1) rfl).put 2 (.slice A0_2 l0_2.length c0_2) rfl)
   refine bodyPost_ret (results_ctt rfl _ _ (w.heap.size + 1) 25 #[.slice A0_0 l0_0.length c0_0, .int .i64 a0_1, .slice A0_2 l0_2.length c0_2] (0, 0) _ rfl HF.out.br Try.underlying25 rfl (by kernel_rfl)) rfl ?_
   exact ⟨_, _, rfl, HV0.out _ HF.out.bel, HV2.out _ HF.out.bel, HF.out.bel⟩
  ·rw [if_neg hl] at h
   have b0 : ((l0_2.length : Int) == 64) = false := beq_eq_false_iff_ne.mpr (by omega)
   have b1 : (l0_2.length == 64) = false := beq_eq_false_iff_ne.mpr hl
   clear hl
   have hll : l0_2.length < 17592186044416 := by
    by_cases hll : l0_2.length < 17592186044416
    ·exact hll
    ·rw [if_neg hll] at h; cases h
   rw [if_pos hll] at h
   simp only [Option.some.injEq, Prod.mk.injEq] at h
   obtain ⟨rfl, rfl, rfl, rfl, rfl⟩ := h
   have HLL := Aside0.mk hll
   have q0 : ((l0_2.length : Int) ≤ (c0_2 : Int)) = True := eq_true (by have := HC2.out; omega)
   have q1 : (l0_2.length ≤ c0_2) = True := eq_true HC2.out
   clear hll
   go_enter Try.func16, Try.ntmps16
   go_upto_region 5 with (go_at_call 9; refine (store_Check.calls k A0_0 c0_0 l0_0 a0_1 A0_2 c0_2 l0_2 true _ ?s1 HC0.out ?s2 HC2.out HT.out).mono ?_; (case s1 => exact Kd.C_alloc (Kd.C_alloc HR0.out _) _); (case s2 => exact Kd.C_alloc (Kd.C_alloc HR2.out _) _); rintro e w2 ⟨rfl, hd⟩; have HS2 := Aside0.mk (HS.out.below hd); have x0 := (blk_cell HS2.out.bs 0).trans rfl; have x1 := (blk_cell HS2.out.bs 1).trans rfl; have x2 := (blk_cell HS2.out.bs 2).trans rfl; have y0 := (blk_cell HS2.out.br 0).trans rfl; have y1 := (blk_cell HS2.out.br 1).trans rfl; have y2 := (blk_cell HS2.out.br 2).trans rfl; have f0 := blk_frozen HS2.out.br 0; have f1 := blk_frozen HS2.out.br 1; have f2 := blk_frozen HS2.out.br 2; clear hd)
   obtain ⟨i0, hi0, hz0, hz1, hz2⟩ := info_parts info3
   have HI := Aside0.mk HS2.out.drew
   clear x0 x1 x2 y0 y1 y2 f0 f1 f2 z0 z1 z2 HS HS2
   refine start_ (n := 15) (S := fun w' => w'.cell? ⟨w.heap.size, 1, none⟩ = some (.int .i64 a0_1) ∧ w'.cell? ⟨w.heap.size, 2, none⟩ = some (.slice A0_2 l0_2.length c0_2)) (ds := [14]) #[false, false, false, false, false, false, false, false, false, false, false, false, false, false, false] (by kernel_rfl) rfl rfl ⟨(blk_cell HI.out.bs 1).trans rfl, (blk_cell HI.out.bs 2).trans rfl⟩ (fun hHeld => ?_)
   generalize w2.drew = w3 at HI hHeld ⊢
   refine pure_ (i := 0) (N := some 16) (v := ?_) (a' := ?_) #[true, false, false, false, false, false, false, false, false, false, false, false, false, false, false] rfl rfl (by kernel_rfl) (fun _ _ _ h => h) (Or.inl ⟨by rfl, ?_⟩) ?_ ?_
   rotate_left
   ·intro w'
    go_simp
    with_reducible rfl
   rotate_left
   ·simp only [Act.put, sA_, sB_, sC_, i64_w, i32_w]
    rfl
   refine take_ (i := 1) (N := some 17) (v := ?_) (a' := ?_) #[true, true, false, false, false, false, false, false, false, false, false, false, false, false, false] rfl rfl (by kernel_rfl) (fun _ _ _ h => h) (Or.inl ⟨by rfl, ?_⟩) hHeld ?_ ?_
   rotate_left
   ·rintro w' ⟨s0, s1⟩
    go_simp
    with_reducible rfl
   rotate_left
   ·simp only [Act.put, sA_, sB_, sC_, i64_w, i32_w]
    rfl
   refine pure_ (i := 2) (N := some 18) (v := ?_) (a' := ?_) #[true, true, true, false, false, false, false, false, false, false, false, false, false, false, false] rfl rfl (by kernel_rfl) (fun _ _ _ h => h) (Or.inl ⟨by rfl, ?_⟩) ?_ ?_
   rotate_left
   ·intro w'
    go_simp
    with_reducible rfl
   rotate_left
   ·simp only [Act.put, sA_, sB_, sC_, i64_w, i32_w]
    rfl
   refine take_ (i := 3) (N := some 19) (v := ?_) (a' := ?_) #[true, true, true, true, false, false, false, false, false, false, false, false, false, false, false] rfl rfl (by kernel_rfl) (fun _ _ _ h => h) (Or.inl ⟨by rfl, ?_⟩) hHeld ?_ ?_
   rotate_left
   ·rintro w' ⟨s0, s1⟩
    go_simp
    with_reducible rfl
   rotate_left
   ·simp only [Act.put, sA_, sB_, sC_, i64_w, i32_w]
    rfl
   refine pure_ (i := 4) (N := some 20) (v := ?_) (a' := ?_) #[true, true, true, true, true, false, false, false, false, false, false, false, false, false, false] rfl rfl (by kernel_rfl) (fun _ _ _ h => h) (Or.inl ⟨by rfl, ?_⟩) ?_ ?_
   rotate_left
   ·intro w'
    go_simp
    with_reducible rfl
   rotate_left
   ·simp only [Act.put, sA_, sB_, sC_, i64_w, i32_w]
    rfl
   refine pure_ (i := 5) (N := some 21) (v := ?_) (a' := ?_) #[true, true, true, true, true, true, false, false, false, false, false, false, false, false, false] rfl rfl (by kernel_rfl) (fun _ _ _ h => h) (Or.inl ⟨by rfl, ?_⟩) ?_ ?_
   rotate_left
   ·intro w'
    go_simp
    with_reducible rfl
   rotate_left
   ·simp only [Act.put, sA_, sB_, sC_, i64_w, i32_w]
    rfl
   refine take_ (i := 6) (N := some 22) (v := ?_) (a' := ?_) #[true, true, true, true, true, true, true, false, false, false, false, false, false, false, false] rfl rfl (by kernel_rfl) (fun _ _ _ h => h) (Or.inl ⟨by rfl, ?_⟩) hHeld ?_ ?_
   rotate_left
   ·rintro w' ⟨s0, s1⟩
    go_simp
    with_reducible rfl
   rotate_left
   ·simp only [Act.put, sA_, sB_, sC_, i64_w, i32_w]
    rfl
   refine pure_ (i := 7) (N := some 23) (v := ?_) (a' := ?_) #[true, true, true, true, true, true, true, true, false, false, false, false, false, false, false] rfl rfl (by kernel_rfl) (fun _ _ _ h => h) (Or.inl ⟨by rfl, ?_⟩) ?_ ?_
   rotate_left
   ·intro w'
    go_simp
    with_reducible rfl
   rotate_left
   ·simp only [Act.put, sA_, sB_, sC_, i64_w, i32_w]
    rfl
   refine pure_ (i := 8) (N := some 24) (v := ?_) (a' := ?_) #[true, true, true, true, true, true, true, true, true, false, false, false, false, false, false] rfl rfl (by kernel_rfl) (fun _ _ _ h => h) (Or.inl ⟨by rfl, ?_⟩) ?_ ?_
   rotate_left
   ·intro w'
    go_simp
    with_reducible rfl
   rotate_left
   ·simp only [Act.put, sA_, sB_, sC_, i64_w, i32_w]
    rfl
   refine pure_ (i := 9) (N := some 25) (v := ?_) (a' := ?_) #[true, true, true, true, true, true, true, true, true, true, false, false, false, false, false] rfl rfl (by kernel_rfl) (fun _ _ _ h => h) (Or.inl ⟨by rfl, ?_⟩) ?_ ?_
   rotate_left
   ·intro w'
    go_simp
    with_reducible rfl
   rotate_left
   ·simp only [Act.put, sA_, sB_, sC_, i64_w, i32_w]
    rfl
   refine take_ (i := 10) (N := some 26) (v := ?_) (a' := ?_) #[true, true, true, true, true, true, true, true, true, true, true, false, false, false, false] rfl rfl (by kernel_rfl) (fun _ _ _ h => h) (Or.inl ⟨by rfl, ?_⟩) hHeld ?_ ?_
   rotate_left
   ·rintro w' ⟨s0, s1⟩
    go_simp
    with_reducible rfl
   rotate_left
   ·simp only [Act.put, sA_, sB_, sC_, i64_w, i32_w]
    rfl
   refine one_ (i := 11) (N := some 27) #[true, true, true, true, true, true, true, true, true, true, true, true, false, false, false] rfl rfl (by kernel_rfl) (by decide) (fun K hK => ?_)
   refine val_step (v := _) (w1 := _) (by rfl) rfl (pn_lit _ rfl (by rfl)) ?_
   have HW3 := Aside0.mk HI
   have hsz : w3.heap.size = w3.heap.size := rfl
   obtain ⟨G, hG⟩ : ∃ G, G = w3.heap.size := ⟨_, rfl⟩
   have HLit := Aside0.mk (show (w3.alloc (.cells #[.int .i64 a0_1] 3)).heap[G]? = some (.cells #[.int .i64 a0_1] 3 (0, 0)) from hG ▸ blk_new _ _)
   have HC3 := Aside0.mk (olds_C (Kd.C_alloc (Kd.C_below HR2.out HI.out.bel) (.cells #[.int .i64 a0_1] 3)))
   replace HI := Aside0.mk (HI.out.alloc (.cells #[.int .i64 a0_1] 3))
   rw [← hG]
   have HBR := Aside0.mk HI.out.br
   clear HW3 hsz hG
   generalize w3.alloc (.cells #[.int .i64 a0_1] 3) = w4 at HI HLit HC3 HBR ⊢
   refine hK.out _ _ ⟨(blk_cell HI.out.bs 1).trans rfl, (blk_cell HI.out.bs 2).trans rfl⟩ (fun hHeld => ?_)
   clear hK K
   refine norm_ (a' := ?_) ?_ ?_
   rotate_left
   ·show Act.put _ (some 27) _ = _
    simp only [Act.put, sA_, sB_, sC_, i64_w, i32_w]
    rfl
   refine one_ (i := 12) (N := some 28) #[true, true, true, true, true, true, true, true, true, true, true, true, true, false, false] rfl rfl (by kernel_rfl) (by decide) (fun K hK => ?_)
   have hnews : ∀ j u, ([.int .i64 a0_1] : List Value)[j]? = some u → w4.cell? ((⟨G, 0, none⟩ : Addr).add j) = some u := fun j u hj => by
    cases j with
    | zero => simp at hj; subst hj; exact (blk_cell HLit.out 0).trans rfl
    | succ j => simp at hj
   refine step_append_grows rfl (.tmp 24) (.tmp 27) 23 rfl 3 i0 (.int .i64 0) 1 8 Try.underlying23 hi0 hz0 hz1 hz2 rfl (by decide) A0_2 l0_2.length l0_2.length (encs (Value.int .i64) l0_2) (by rfl) HC3.out.1 (by simp [encs]) HC3.out.2 ⟨G, 0, none⟩ 1 1 [.int .i64 a0_1] (by rfl) rfl hnews (by intro u hu; simp at hu; subst hu; rfl) (by omega) (by have := HLL.out; unfold maxLen; omega) (by have := HLL.out; omega) ?_
   intro v5 w5 hown hgrow
   obtain ⟨g5, cap5, hv5, hb5, hl5⟩ := World.ownsRow.form hown (by omega)
   subst hv5
   have HOW := Aside0.mk hown
   replace HI := Aside0.mk (HI.out.grown hgrow)
   have HGe := Aside0.mk (show w.heap.size + 2 ≤ g5 from by
    have h1 := blk_lt (show w4.heap[w.heap.size + 1]? = some _ from HBR.out)
    omega)
   have hll5 : (l0_2 ++ [a0_1]).length = l0_2.length + 1 := by simp
   have hown2 : w5.ownsRow w4.heap.size 3 1 (.slice (some ⟨g5, 0, none⟩) (l0_2.length + 1) cap5) (l0_2 ++ [a0_1]).length (encs (Value.int .i64) (l0_2 ++ [a0_1])) := by
    rw [hll5, show encs (Value.int .i64) (l0_2 ++ [a0_1]) = encs (Value.int .i64) l0_2 ++ [.int .i64 a0_1] by simp [encs]]
    exact hown
   have HRow := Aside0.mk (show Kd.R (Kd.int .i64) 3 w5 w.heap.size (fun k => k = g5) (.slice (some ⟨g5, 0, none⟩) (l0_2.length + 1) cap5) (l0_2 ++ [a0_1]) from Kd.R_lower (Kd.R_of_own hown2 (fun k hk => by simp [Value.ownBlock] at hk; exact hk.symm)) (by have h1 := blk_lt (show w4.heap[w.heap.size + 1]? = some _ from HBR.out); omega))
   clear hown hgrow hb5 hl5 hnews hown2 hll5 HOW
   refine hK.out _ _ ⟨(blk_cell HI.out.bs 1).trans rfl, (blk_cell HI.out.bs 2).trans rfl⟩ (fun hHeld => ?_)
   clear hK K
   refine norm_ (a' := ?_) ?_ ?_
   rotate_left
   ·show Act.put _ (some 28) _ = _
    simp only [Act.put, sA_, sB_, sC_, i64_w, i32_w]
    rfl
   refine pure_ (i := 13) (N := some 29) (v := ?_) (a' := ?_) #[true, true, true, true, true, true, true, true, true, true, true, true, true, true, false] rfl rfl (by kernel_rfl) (fun _ _ _ h => h) (Or.inl ⟨by rfl, ?_⟩) ?_ ?_
   rotate_left
   ·intro w'
    go_simp
    with_reducible rfl
   rotate_left
   ·simp only [Act.put, sA_, sB_, sC_, i64_w, i32_w]
    rfl
   refine last_ (i := 14) (N := none) #[true, true, true, true, true, true, true, true, true, true, true, true, true, true, true] rfl rfl (by kernel_rfl) (by decide) (fun K hK => ?_)
   have u2 := (blk_cell HI.out.bs 2).trans rfl
   have v2 := blk_frozen HI.out.bs 2
   refine skip_ (w1 := ?_) (by rfl) rfl ?_ ?_
   rotate_left
   ·go_simp
    rfl
   refine hK.out _ _ ?_
   clear hK K
   refine done_ (by kernel_rfl) ?_
   have HI6 := Aside0.mk (HI.out.sput 2 (.slice (some ⟨g5, 0, none⟩) (l0_2.length + 1) cap5) rfl)
   replace HRow := Aside0.mk (Kd.R_far (p := ⟨w.heap.size, 2, none⟩) HRow.out (fun k hk => by have := HGe.out; show k ≠ w.heap.size; omega) (.slice (some ⟨g5, 0, none⟩) (l0_2.length + 1) cap5))
   clear u2 v2 HLit HC3 HBR hHeld
   generalize w5.setCell ⟨w.heap.size, 2, none⟩ (.slice (some ⟨g5, 0, none⟩) (l0_2.length + 1) cap5) = w6 at HI6 HRow ⊢
   go_upto_region 6 with fail
   clear HI
   have HI := Aside0.mk HI6.out.drew
   replace HRow := Aside0.mk (Kd.R_drew HRow.out)
   clear HI6
   refine start_ (n := 6) (S := fun w' => w'.cell? ⟨w.heap.size, 0, none⟩ = some (.slice A0_0 l0_0.length c0_0) ∧ w'.cell? ⟨w.heap.size, 1, none⟩ = some (.int .i64 a0_1) ∧ w'.cell? ⟨w.heap.size, 2, none⟩ = some (.slice (some ⟨g5, 0, none⟩) (l0_2.length + 1) cap5)) (ds := []) #[false, false, false, false, false, false] (by kernel_rfl) rfl rfl ⟨(blk_cell HI.out.bs 0).trans rfl, (blk_cell HI.out.bs 1).trans rfl, (blk_cell HI.out.bs 2).trans rfl⟩ (fun hHeld => ?_)
   generalize w6.drew = w7 at HI HRow hHeld ⊢
   refine take_ (i := 0) (N := some 30) (v := ?_) (a' := ?_) #[true, false, false, false, false, false] rfl rfl (by kernel_rfl) (fun _ _ _ h => h) (Or.inl ⟨by rfl, ?_⟩) hHeld ?_ ?_
   rotate_left
   ·rintro w' ⟨s0, s1, s2⟩
    go_simp
    with_reducible rfl
   rotate_left
   ·simp only [Act.put, sA_, sB_, sC_, i64_w, i32_w]
    rfl
   refine pure_ (i := 1) (N := some 31) (v := ?_) (a' := ?_) #[true, true, false, false, false, false] rfl rfl (by kernel_rfl) (fun _ _ _ h => h) (Or.inl ⟨by rfl, ?_⟩) ?_ ?_
   rotate_left
   ·intro w'
    go_simp
    with_reducible rfl
   rotate_left
   ·simp only [Act.put, sA_, sB_, sC_, i64_w, i32_w]
    rfl
   refine take_ (i := 2) (N := some 32) (v := ?_) (a' := ?_) #[true, true, true, false, false, false] rfl rfl (by kernel_rfl) (fun _ _ _ h => h) (Or.inl ⟨by rfl, ?_⟩) hHeld ?_ ?_
   rotate_left
   ·rintro w' ⟨s0, s1, s2⟩
    go_simp
    with_reducible rfl
   rotate_left
   ·simp only [Act.put, sA_, sB_, sC_, i64_w, i32_w]
    rfl
   refine one_ (i := 3) (N := none) #[true, true, true, true, false, false] rfl rfl (by kernel_rfl) (by decide) (fun K hK => ?_)
   have y0 := (blk_cell HI.out.br 0).trans rfl
   have y1 := (blk_cell HI.out.br 1).trans rfl
   have y2 := (blk_cell HI.out.br 2).trans rfl
   have f0 := blk_frozen HI.out.br 0
   have f1 := blk_frozen HI.out.br 1
   have f2 := blk_frozen HI.out.br 2
   refine skip_ (w1 := ?_) (by rfl) rfl ?_ ?_
   rotate_left
   ·go_simp
    rfl
   have HF := Aside0.mk (((HI.out.put 0 (.slice A0_0 l0_0.length c0_0) rfl).put 1 (.int .i64 a0_1) rfl).put 2 (.slice (some ⟨g5, 0, none⟩) (l0_2.length + 1) cap5) rfl)
   refine hK.out _ _ ⟨(blk_cell HF.out.bs 0).trans rfl, (blk_cell HF.out.bs 1).trans rfl, (blk_cell HF.out.bs 2).trans rfl⟩ (fun hHeld => ?_)
   clear hK K
   refine pure_ (i := 4) (N := some 3) (v := ?_) (a' := ?_) #[true, true, true, true, true, false] rfl rfl (by kernel_rfl) (fun _ _ _ h => h) (Or.inl ⟨by rfl, ?_⟩) ?_ ?_
   rotate_left
   ·intro w'
    go_simp
    with_reducible rfl
   rotate_left
   ·simp only [Act.put, sA_, sB_, sC_, i64_w, i32_w]
    rfl
   refine pure_ (i := 5) (N := some 4) (v := ?_) (a' := ?_) #[true, true, true, true, true, true] rfl rfl (by kernel_rfl) (fun _ _ _ h => h) (Or.inl ⟨by rfl, ?_⟩) ?_ ?_
   rotate_left
   ·intro w'
    go_simp
    with_reducible rfl
   rotate_left
   ·simp only [Act.put, sA_, sB_, sC_, i64_w, i32_w]
    rfl
   refine done_ (by kernel_rfl) ?_
   go_wp2
   refine bodyPost_ret (results_ctt rfl _ _ (w.heap.size + 1) 25 #[.slice A0_0 l0_0.length c0_0, .int .i64 a0_1, .slice (some ⟨g5, 0, none⟩) (l0_2.length + 1) cap5] (0, 0) _ rfl HF.out.br Try.underlying25 rfl (by kernel_rfl)) rfl ?_
   refine ⟨_, _, rfl, HV0.out _ HF.out.bel, ?_, HF.out.bel⟩
   have hne : ∀ (i : Nat) k, k = g5 → k ≠ (⟨w.heap.size + 1, i, none⟩ : Addr).block := fun i k hk => by have := HGe.out; show k ≠ w.heap.size + 1; omega
   exact Kd.V_mono (Kd.R_V (Kd.R_far (p := ⟨w.heap.size + 1, 2, none⟩) (Kd.R_far (p := ⟨w.heap.size + 1, 1, none⟩) (Kd.R_far (p := ⟨w.heap.size + 1, 0, none⟩) HRow.out (hne 0) _) (hne 1) _) (hne 2) _)) (fun k hk => .inr (by have := HGe.out; omega))
end Go.Proofs.Ytmolbbebglfhmaa.A
