/- Lean functions that answer as the Go functions do, and the proofs that they do; no conditions. Written by this session's own driver: a scratch copy of the kit's print with the session's additions (wip/xprint). -/
import Derived.Test.YtmolbbebglfhmaaAx0
import Derived.Test.YtmolbbebglfhmaaAx3
import Derived.Test.YtmolbbebglfhmaaAx7
import Derived.Test.YtmolbbebglfhmaaAx8
import Derived.Test.YtmolbbebglfhmaaAx10
import Derived.Test.YtmolbbebglfhmaaAx11
import Derived.Test.YtmolbbebglfhmaaAx13
namespace Go.Proofs.Ytmolbbebglfhmaa.A
open Go.RowKit Go.Proofs.YtmolbbebglfhmaaW.PrintWords Go.Proofs.YtmolbbebglfhmaaW.PrintLast Go.Proofs.YtmolbbebglfhmaaW.PrintMore
attribute [local go_sem] max2_int min2_int max_two min_two max_three min_three max_four min_four
set_option linter.unusedVariables false
set_option linter.unusedSimpArgs false
mutual
def fullerlaw18_StorePins.j0 : Nat → Int → Bool → Bool → List (List (S74)) → Int → List Int → Option (Bool)
 | 0, _, _, _, _, _, _ => none
 | k + 1, x1, x5, x22, x425000, x425001, x425002 => if x22 = true then (some x5) else ((store_Pin.f k x425000 x425001 x425002).bind fun bt428 => ((store_Free.f k bt428.1 bt428.2.1 bt428.2.2.1 bt428.2.2.2.1).bind fun bt438 => ((store_Free.f k x425000 x425001 x425002 x1).bind fun bt447 => ((fullerref10_In.f k x425002 x1).bind fun t456 => (if ((bt447.2.2.2 == 0) == t456) = true then (if bt447.2.2.2 = 0 then (if (bt447.2.2.1.length : Int) = (wrap64 ((x425002.length : Int) - 1)) then (fullerlaw18_StorePins.j1 k x5 bt428.2.2.2.1 bt428.2.2.2.2 bt438.2.2.2 true x425000 x425001 x425002 bt428.1 bt428.2.1 bt428.2.2.1 bt438.1 bt438.2.1 bt438.2.2.1) else (if bt447.2.2.2 = 180 then ((fullerref18_Same.f k bt447.1 bt447.2.1 bt447.2.2.1 x425000 x425001 x425002).bind fun t457 => (fullerlaw18_StorePins.j1 k x5 bt428.2.2.2.1 bt428.2.2.2.2 bt438.2.2.2 t457 x425000 x425001 x425002 bt428.1 bt428.2.1 bt428.2.2.1 bt438.1 bt438.2.1 bt438.2.2.1)) else (fullerlaw18_StorePins.j1 k x5 bt428.2.2.2.1 bt428.2.2.2.2 bt438.2.2.2 false x425000 x425001 x425002 bt428.1 bt428.2.1 bt428.2.2.1 bt438.1 bt438.2.1 bt438.2.2.1))) else (if bt447.2.2.2 = 180 then ((fullerref18_Same.f k bt447.1 bt447.2.1 bt447.2.2.1 x425000 x425001 x425002).bind fun t458 => (fullerlaw18_StorePins.j1 k x5 bt428.2.2.2.1 bt428.2.2.2.2 bt438.2.2.2 t458 x425000 x425001 x425002 bt428.1 bt428.2.1 bt428.2.2.1 bt438.1 bt438.2.1 bt438.2.2.1)) else (fullerlaw18_StorePins.j1 k x5 bt428.2.2.2.1 bt428.2.2.2.2 bt438.2.2.2 false x425000 x425001 x425002 bt428.1 bt428.2.1 bt428.2.2.1 bt438.1 bt438.2.1 bt438.2.2.1))) else (fullerlaw18_StorePins.j1 k x5 bt428.2.2.2.1 bt428.2.2.2.2 bt438.2.2.2 false x425000 x425001 x425002 bt428.1 bt428.2.1 bt428.2.2.1 bt438.1 bt438.2.1 bt438.2.2.1))))))
def fullerlaw18_StorePins.j1 : Nat → Bool → Int → Int → Int → Bool → List (List (S74)) → Int → List Int → List (List (S74)) → Int → List Int → List (List (S74)) → Int → List Int → Option (Bool)
 | 0, _, _, _, _, _, _, _, _, _, _, _, _, _, _ => none
 | k + 1, x5, x7, x8, x10, x13, x425000, x425001, x425002, x438000, x438001, x438002, x447000, x447001, x447002 => if x8 = 0 then (if x5 = true then (if x13 = true then (if x10 = 0 then (if x7 = x425001 then (if (x438002.length : Int) = (wrap64 ((x425002.length : Int) + 1)) then ((fullerref18_Same.f k x447000 x447001 x447002 x425000 x425001 x425002).bind fun t459 => (some t459)) else (some false)) else (some false)) else (some false)) else (some false)) else (some false)) else (if x5 = true then (if x13 = true then (if x8 = 171 then (some ((x425002.length : Int) == 64)) else (some false)) else (some false)) else (some false))
end
def fullerlaw18_StorePins.f (k : Nat) (l0_0 : List (List (S74))) (a0_1 : Int) (l0_2 : List Int) (a1 : Int) : Option (Bool) := (fullerlaw18_awake.f k).bind fun t425 => ((fullerref18_Few.f k l0_0 a0_1 l0_2).bind fun t426 => (if t426 = true then ((store_Check.f k l0_0 a0_1 l0_2).bind fun t427 => (fullerlaw18_StorePins.j0 k a1 t425 (!t427) l0_0 a0_1 l0_2)) else (fullerlaw18_StorePins.j0 k a1 t425 true l0_0 a0_1 l0_2)))
set_option maxHeartbeats 8000000 in
set_option maxRecDepth 100000 in
theorem fullerlaw18_StorePins.calls (k : Nat) (A0_0 : Option Addr) (c0_0 : Nat) (l0_0 : List (List (S74))) (a0_1 : Int) (A0_2 : Option Addr) (c0_2 : Nat) (l0_2 : List Int) (a1 : Int) (r : Bool) (w : World) (hr0_0 : Kd.C (Kd.slice 74 k74) w A0_0 l0_0.length l0_0) (hc0_0 : l0_0.length ≤ c0_0) (hr0_2 : Kd.C (Kd.int .i64) w A0_2 l0_2.length l0_2) (hc0_2 : l0_2.length ≤ c0_2) (h : fullerlaw18_StorePins.f k l0_0 a0_1 l0_2 a1 = some r) :
  Calls Try.prog 4 #[.agg #[.slice A0_0 l0_0.length c0_0, .int .i64 a0_1, .slice A0_2 l0_2.length c0_2], .int .i64 a1] w fun e w' => e = .returned (.bool r) ∧ Below w.heap.size w w' := by
 have hu25 := Try.underlying25
 have HR0_0 := Aside0.mk hr0_0
 have HC0_0 := Aside0.mk hc0_0
 clear hr0_0 hc0_0
 have HR0_2 := Aside0.mk hr0_2
 have HC0_2 := Aside0.mk hc0_2
 clear hr0_2 hc0_2
 have HB := Aside0.mk (Below.refl w.heap.size w)
 have H : ((fullerlaw18_awake.f k).bind fun t425 => ((fullerref18_Few.f k l0_0 a0_1 l0_2).bind fun t426 => (if t426 = true then ((store_Check.f k l0_0 a0_1 l0_2).bind fun t427 => (fullerlaw18_StorePins.j0 k a1 t425 (!t427) l0_0 a0_1 l0_2)) else (fullerlaw18_StorePins.j0 k a1 t425 true l0_0 a0_1 l0_2)))) = some r := h
 clear h
 replace H := Option.bind_eq_some_iff.mp H
 obtain ⟨t425, A30, H⟩ := H
 replace H : ((fullerref18_Few.f k l0_0 a0_1 l0_2).bind fun t426 => (if t426 = true then ((store_Check.f k l0_0 a0_1 l0_2).bind fun t427 => (fullerlaw18_StorePins.j0 k a1 t425 (!t427) l0_0 a0_1 l0_2)) else (fullerlaw18_StorePins.j0 k a1 t425 true l0_0 a0_1 l0_2))) = some r := H
 have A3 := Aside0.mk A30
 clear A30
 have HC4 := Aside0.mk H
 clear H
 go_enter Try.func4, Try.ntmps4
 go_upto_region 2 with (first | ((with_reducible refine gate_dst (N := 2) rfl ?_); (try (refine gate_guard (by rfl) ?_; dsimp only)); refine box_event ?hg (N := 2) ?hd (cs := #[.slice A0_0 l0_0.length c0_0, .int .i64 a0_1, .slice A0_2 l0_2.length c0_2]) (t := 25) ?hr ?_; (case hd => rfl); (case hg => rfl); (case hr => first | (go_simp; done) | (go_simp; rfl)); intro gb424 hg w5 hbox hb; have BK424 := Aside0.mk (hbox); have GW424 := Aside0.mk ((by rw [hg]; exact (below_size (bq0_ HB.out)) : w.heap.size ≤ gb424)); have GE424 := Aside0.mk ((by rw [hg]; exact (below_size (bq0_ HB.out)) : w.heap.size ≤ gb424)); replace HB := Aside0.mk (below_step (bq0_ HB.out) hb); clear hb hbox hg) | ((with_reducible refine gate_callee (f := 6) rfl ?_); refine gL_ (some 14) Try.func6 #[] ?_; (with_reducible refine (fullerlaw18_awake.calls k  t425 _ A3.out).mono ?_); rintro e w6 ⟨rfl, hb⟩; refine ⟨_, rfl, ?_⟩; replace BK424 := mvB_ BK424.out hb; replace HB := Aside0.mk (below_step (bq1_ HB.out GE424.out) hb); (try clear hb)))
 (try simp only [Act.put, sA_, sB_, sC_])
 go_cut [22] (fun v22 wc => ∃ (kq : Nat) (x22_3 : Bool), v22 = .bool x22_3 ∧ Aside0 (fullerlaw18_StorePins.j0 kq a1 t425 x22_3 l0_0 a0_1 l0_2 = some r) ∧ Aside0 (kq ≤ k) ∧ Aside0 (wc.heap[gb424]? = some (.cells #[(.slice A0_0 l0_0.length c0_0), .int .i64 a0_1, (.slice A0_2 l0_2.length c0_2)] 25 (0, 0))) ∧ Aside0 (Below w.heap.size w wc))
 case first =>
  have H := HC4.out
  clear HC4
  replace H := Option.bind_eq_some_iff.mp H
  obtain ⟨t426, A70, H⟩ := H
  replace H : (if t426 = true then ((store_Check.f k l0_0 a0_1 l0_2).bind fun t427 => (fullerlaw18_StorePins.j0 k a1 t425 (!t427) l0_0 a0_1 l0_2)) else (fullerlaw18_StorePins.j0 k a1 t425 true l0_0 a0_1 l0_2)) = some r := H
  have A7 := Aside0.mk A70
  clear A70
  by_cases c8 : t426 = true
  ·subst c8
   have H1 : ((store_Check.f k l0_0 a0_1 l0_2).bind fun t427 => (fullerlaw18_StorePins.j0 k a1 t425 (!t427) l0_0 a0_1 l0_2)) = some r := by rw [if_pos rfl] at H; exact H
   clear H
   have H := H1
   clear H1
   replace H := Option.bind_eq_some_iff.mp H
   obtain ⟨t427, A90, H⟩ := H
   replace H : (fullerlaw18_StorePins.j0 k a1 t425 (!t427) l0_0 a0_1 l0_2) = some r := H
   have A9 := Aside0.mk A90
   clear A90
   have H' := Aside0.mk H
   clear H
   have hcz10_0 := cz0_ BK424.out
   have hcz10_1 := cz1_ BK424.out
   have hcz10_2 := cz2_ BK424.out
   have hfz10_0 := blk_frozen BK424.out 0
   have hfz10_1 := blk_frozen BK424.out 1
   have hfz10_2 := blk_frozen BK424.out 2
   go_wp2_with (first | ((with_reducible refine gate_callee (f := 7) rfl ?_); refine gL_ (some 16) Try.func7 #[.agg #[.slice A0_0 l0_0.length c0_0, .int .i64 a0_1, .slice A0_2 l0_2.length c0_2]] ?_; (with_reducible refine (fullerref18_Few.calls k _ _ l0_0 a0_1 _ _ l0_2 true _ ?side1 ?side2 ?side3 ?side4 A7.out).mono ?_); (case side1 => exact mvC_ ((Kd.C_below HR0_0.out HB.out))); (case side2 => exact HC0_0.out); (case side3 => exact mvC_ ((Kd.C_below HR0_2.out HB.out))); (case side4 => exact HC0_2.out); rintro e w11 ⟨rfl, hb⟩; refine ⟨_, rfl, ?_⟩; replace BK424 := mvB_ BK424.out hb; replace HB := Aside0.mk (below_step (bq1_ HB.out GE424.out) hb); (try clear hb); have hcz12_0 := cz0_ BK424.out; have hcz12_1 := cz1_ BK424.out; have hcz12_2 := cz2_ BK424.out; have hfz12_0 := blk_frozen BK424.out 0; have hfz12_1 := blk_frozen BK424.out 1; have hfz12_2 := blk_frozen BK424.out 2) | (go_at_call 9; (with_reducible refine (store_Check.calls k _ _ l0_0 a0_1 _ _ l0_2 t427 _ ?side1 ?side2 ?side3 ?side4 A9.out).mono ?_); (case side1 => exact mvC_ ((Kd.C_below HR0_0.out HB.out))); (case side2 => exact HC0_0.out); (case side3 => exact mvC_ ((Kd.C_below HR0_2.out HB.out))); (case side4 => exact HC0_2.out); rintro e w13 ⟨rfl, hb⟩; replace BK424 := mvB_ BK424.out hb; replace HB := Aside0.mk (below_step (bq1_ HB.out GE424.out) hb); (try clear hb)))
   go_meet
   case rel => exact ⟨_, (!t427), (by first | rfl | (simp; done) | (simp [*]; done)), H', ⟨by first | omega | exact Nat.le_refl _⟩, ⟨by (with_reducible repeat (first | refine blk_drewN ?_ _ | refine blk_drew ?_ | refine blk_alloc ?_ _)); exact BK424.out⟩, ⟨bq1_ HB.out GE424.out⟩⟩
  ·replace c8 := Bool.eq_false_iff.mpr c8
   subst c8
   have H1 : (fullerlaw18_StorePins.j0 k a1 t425 true l0_0 a0_1 l0_2) = some r := by rw [if_neg (show ¬ (false = true) by decide)] at H; exact H
   clear H
   have H := H1
   clear H1
   have H' := Aside0.mk H
   clear H
   have hcz14_0 := cz0_ BK424.out
   have hcz14_1 := cz1_ BK424.out
   have hcz14_2 := cz2_ BK424.out
   have hfz14_0 := blk_frozen BK424.out 0
   have hfz14_1 := blk_frozen BK424.out 1
   have hfz14_2 := blk_frozen BK424.out 2
   go_wp2_with (first | ((with_reducible refine gate_callee (f := 7) rfl ?_); refine gL_ (some 16) Try.func7 #[.agg #[.slice A0_0 l0_0.length c0_0, .int .i64 a0_1, .slice A0_2 l0_2.length c0_2]] ?_; (with_reducible refine (fullerref18_Few.calls k _ _ l0_0 a0_1 _ _ l0_2 false _ ?side1 ?side2 ?side3 ?side4 A7.out).mono ?_); (case side1 => exact mvC_ ((Kd.C_below HR0_0.out HB.out))); (case side2 => exact HC0_0.out); (case side3 => exact mvC_ ((Kd.C_below HR0_2.out HB.out))); (case side4 => exact HC0_2.out); rintro e w15 ⟨rfl, hb⟩; refine ⟨_, rfl, ?_⟩; replace BK424 := mvB_ BK424.out hb; replace HB := Aside0.mk (below_step (bq1_ HB.out GE424.out) hb); (try clear hb)))
   go_meet
   case rel => exact ⟨_, (true), (by first | rfl | (simp; done) | (simp [*]; done)), H', ⟨by first | omega | exact Nat.le_refl _⟩, ⟨by (with_reducible repeat (first | refine blk_drewN ?_ _ | refine blk_drew ?_ | refine blk_alloc ?_ _)); exact BK424.out⟩, ⟨bq1_ HB.out GE424.out⟩⟩
 case rest =>
  clear HC4
  try clear p2
  try clear c4
  try clear c6
  try clear c7
  try clear c8
  try clear hcz10_0
  try clear hcz10_1
  try clear hcz10_2
  try clear hcz12_0
  try clear hcz12_1
  try clear hcz12_2
  try clear hcz14_0
  try clear hcz14_1
  try clear hcz14_2
  try clear hfz10_0
  try clear hfz10_1
  try clear hfz10_2
  try clear hfz12_0
  try clear hfz12_1
  try clear hfz12_2
  try clear hfz14_0
  try clear hfz14_1
  try clear hfz14_2
  obtain ⟨kq, x22_3, rfl, HA, HJ3, BK424, HB⟩ := hcut
  cases kq with
  | zero => exact absurd HA.out (by simp [fullerlaw18_StorePins.j0])
  | succ kj3 =>
   have H := HA.out
   clear HA
   simp only [fullerlaw18_StorePins.j0] at H
   by_cases c16 : x22_3 = true
   ·subst c16
    have H1 : (some t425) = some r := by rw [if_pos rfl] at H; exact H
    clear H
    have H := H1
    clear H1
    obtain rfl := Option.some.inj H
    go_wp2
    go_ret
    exact ⟨by first | rfl | (simp <;> rfl) | (simp [*] <;> rfl), bq1_ HB.out GE424.out⟩
   ·replace c16 := Bool.eq_false_iff.mpr c16
    subst c16
    have H1 : ((store_Pin.f kj3 l0_0 a0_1 l0_2).bind fun bt428 => ((store_Free.f kj3 bt428.1 bt428.2.1 bt428.2.2.1 bt428.2.2.2.1).bind fun bt438 => ((store_Free.f kj3 l0_0 a0_1 l0_2 a1).bind fun bt447 => ((fullerref10_In.f kj3 l0_2 a1).bind fun t456 => (if ((bt447.2.2.2 == 0) == t456) = true then (if bt447.2.2.2 = 0 then (if (bt447.2.2.1.length : Int) = (wrap64 ((l0_2.length : Int) - 1)) then (fullerlaw18_StorePins.j1 kj3 t425 bt428.2.2.2.1 bt428.2.2.2.2 bt438.2.2.2 true l0_0 a0_1 l0_2 bt428.1 bt428.2.1 bt428.2.2.1 bt438.1 bt438.2.1 bt438.2.2.1) else (if bt447.2.2.2 = 180 then ((fullerref18_Same.f kj3 bt447.1 bt447.2.1 bt447.2.2.1 l0_0 a0_1 l0_2).bind fun t457 => (fullerlaw18_StorePins.j1 kj3 t425 bt428.2.2.2.1 bt428.2.2.2.2 bt438.2.2.2 t457 l0_0 a0_1 l0_2 bt428.1 bt428.2.1 bt428.2.2.1 bt438.1 bt438.2.1 bt438.2.2.1)) else (fullerlaw18_StorePins.j1 kj3 t425 bt428.2.2.2.1 bt428.2.2.2.2 bt438.2.2.2 false l0_0 a0_1 l0_2 bt428.1 bt428.2.1 bt428.2.2.1 bt438.1 bt438.2.1 bt438.2.2.1))) else (if bt447.2.2.2 = 180 then ((fullerref18_Same.f kj3 bt447.1 bt447.2.1 bt447.2.2.1 l0_0 a0_1 l0_2).bind fun t458 => (fullerlaw18_StorePins.j1 kj3 t425 bt428.2.2.2.1 bt428.2.2.2.2 bt438.2.2.2 t458 l0_0 a0_1 l0_2 bt428.1 bt428.2.1 bt428.2.2.1 bt438.1 bt438.2.1 bt438.2.2.1)) else (fullerlaw18_StorePins.j1 kj3 t425 bt428.2.2.2.1 bt428.2.2.2.2 bt438.2.2.2 false l0_0 a0_1 l0_2 bt428.1 bt428.2.1 bt428.2.2.1 bt438.1 bt438.2.1 bt438.2.2.1))) else (fullerlaw18_StorePins.j1 kj3 t425 bt428.2.2.2.1 bt428.2.2.2.2 bt438.2.2.2 false l0_0 a0_1 l0_2 bt428.1 bt428.2.1 bt428.2.2.1 bt438.1 bt438.2.1 bt438.2.2.1)))))) = some r := by rw [if_neg (show ¬ (false = true) by decide)] at H; exact H
    clear H
    have H := H1
    clear H1
    replace H := Option.bind_eq_some_iff.mp H
    obtain ⟨⟨t428, t431, t432, t435, t436⟩, A170, H⟩ := H
    replace H : ((store_Free.f kj3 t428 t431 t432 t435).bind fun bt438 => ((store_Free.f kj3 l0_0 a0_1 l0_2 a1).bind fun bt447 => ((fullerref10_In.f kj3 l0_2 a1).bind fun t456 => (if ((bt447.2.2.2 == 0) == t456) = true then (if bt447.2.2.2 = 0 then (if (bt447.2.2.1.length : Int) = (wrap64 ((l0_2.length : Int) - 1)) then (fullerlaw18_StorePins.j1 kj3 t425 t435 t436 bt438.2.2.2 true l0_0 a0_1 l0_2 t428 t431 t432 bt438.1 bt438.2.1 bt438.2.2.1) else (if bt447.2.2.2 = 180 then ((fullerref18_Same.f kj3 bt447.1 bt447.2.1 bt447.2.2.1 l0_0 a0_1 l0_2).bind fun t457 => (fullerlaw18_StorePins.j1 kj3 t425 t435 t436 bt438.2.2.2 t457 l0_0 a0_1 l0_2 t428 t431 t432 bt438.1 bt438.2.1 bt438.2.2.1)) else (fullerlaw18_StorePins.j1 kj3 t425 t435 t436 bt438.2.2.2 false l0_0 a0_1 l0_2 t428 t431 t432 bt438.1 bt438.2.1 bt438.2.2.1))) else (if bt447.2.2.2 = 180 then ((fullerref18_Same.f kj3 bt447.1 bt447.2.1 bt447.2.2.1 l0_0 a0_1 l0_2).bind fun t458 => (fullerlaw18_StorePins.j1 kj3 t425 t435 t436 bt438.2.2.2 t458 l0_0 a0_1 l0_2 t428 t431 t432 bt438.1 bt438.2.1 bt438.2.2.1)) else (fullerlaw18_StorePins.j1 kj3 t425 t435 t436 bt438.2.2.2 false l0_0 a0_1 l0_2 t428 t431 t432 bt438.1 bt438.2.1 bt438.2.2.1))) else (fullerlaw18_StorePins.j1 kj3 t425 t435 t436 bt438.2.2.2 false l0_0 a0_1 l0_2 t428 t431 t432 bt438.1 bt438.2.1 bt438.2.2.1))))) = some r := H
    have A17 := Aside0.mk A170
    clear A170
    replace H := Option.bind_eq_some_iff.mp H
    obtain ⟨⟨t438, t441, t442, t445⟩, A180, H⟩ := H
    replace H : ((store_Free.f kj3 l0_0 a0_1 l0_2 a1).bind fun bt447 => ((fullerref10_In.f kj3 l0_2 a1).bind fun t456 => (if ((bt447.2.2.2 == 0) == t456) = true then (if bt447.2.2.2 = 0 then (if (bt447.2.2.1.length : Int) = (wrap64 ((l0_2.length : Int) - 1)) then (fullerlaw18_StorePins.j1 kj3 t425 t435 t436 t445 true l0_0 a0_1 l0_2 t428 t431 t432 t438 t441 t442) else (if bt447.2.2.2 = 180 then ((fullerref18_Same.f kj3 bt447.1 bt447.2.1 bt447.2.2.1 l0_0 a0_1 l0_2).bind fun t457 => (fullerlaw18_StorePins.j1 kj3 t425 t435 t436 t445 t457 l0_0 a0_1 l0_2 t428 t431 t432 t438 t441 t442)) else (fullerlaw18_StorePins.j1 kj3 t425 t435 t436 t445 false l0_0 a0_1 l0_2 t428 t431 t432 t438 t441 t442))) else (if bt447.2.2.2 = 180 then ((fullerref18_Same.f kj3 bt447.1 bt447.2.1 bt447.2.2.1 l0_0 a0_1 l0_2).bind fun t458 => (fullerlaw18_StorePins.j1 kj3 t425 t435 t436 t445 t458 l0_0 a0_1 l0_2 t428 t431 t432 t438 t441 t442)) else (fullerlaw18_StorePins.j1 kj3 t425 t435 t436 t445 false l0_0 a0_1 l0_2 t428 t431 t432 t438 t441 t442))) else (fullerlaw18_StorePins.j1 kj3 t425 t435 t436 t445 false l0_0 a0_1 l0_2 t428 t431 t432 t438 t441 t442)))) = some r := H
    have A18 := Aside0.mk A180
    clear A180
    replace H := Option.bind_eq_some_iff.mp H
    obtain ⟨⟨t447, t450, t451, t454⟩, A190, H⟩ := H
    replace H : ((fullerref10_In.f kj3 l0_2 a1).bind fun t456 => (if ((t454 == 0) == t456) = true then (if t454 = 0 then (if (t451.length : Int) = (wrap64 ((l0_2.length : Int) - 1)) then (fullerlaw18_StorePins.j1 kj3 t425 t435 t436 t445 true l0_0 a0_1 l0_2 t428 t431 t432 t438 t441 t442) else (if t454 = 180 then ((fullerref18_Same.f kj3 t447 t450 t451 l0_0 a0_1 l0_2).bind fun t457 => (fullerlaw18_StorePins.j1 kj3 t425 t435 t436 t445 t457 l0_0 a0_1 l0_2 t428 t431 t432 t438 t441 t442)) else (fullerlaw18_StorePins.j1 kj3 t425 t435 t436 t445 false l0_0 a0_1 l0_2 t428 t431 t432 t438 t441 t442))) else (if t454 = 180 then ((fullerref18_Same.f kj3 t447 t450 t451 l0_0 a0_1 l0_2).bind fun t458 => (fullerlaw18_StorePins.j1 kj3 t425 t435 t436 t445 t458 l0_0 a0_1 l0_2 t428 t431 t432 t438 t441 t442)) else (fullerlaw18_StorePins.j1 kj3 t425 t435 t436 t445 false l0_0 a0_1 l0_2 t428 t431 t432 t438 t441 t442))) else (fullerlaw18_StorePins.j1 kj3 t425 t435 t436 t445 false l0_0 a0_1 l0_2 t428 t431 t432 t438 t441 t442))) = some r := H
    have A19 := Aside0.mk A190
    clear A190
    have HC20 := Aside0.mk H
    clear H
    have hcz21_0 := cz0_ BK424.out
    have hcz21_1 := cz1_ BK424.out
    have hcz21_2 := cz2_ BK424.out
    have hfz21_0 := blk_frozen BK424.out 0
    have hfz21_1 := blk_frozen BK424.out 1
    have hfz21_2 := blk_frozen BK424.out 2
    go_upto_region 7 with (first | ((with_reducible refine gate_callee (f := 16) rfl ?_); refine gL_ (some 26) Try.func16 #[.agg #[.slice A0_0 l0_0.length c0_0, .int .i64 a0_1, .slice A0_2 l0_2.length c0_2]] ?_; (with_reducible refine (store_Pin.calls kj3 (fun k_ => k_ < w.heap.size) _ _ l0_0 a0_1 (fun k_ => k_ < w.heap.size) _ _ l0_2 t428 t431 t432 t435 t436 _ ?side1 ?side2 A17.out).mono ?_); (case side1 => exact Kd.V_mk HC0_0.out (Kd.F_below (Kd.C_F (Kd.heap_slice 74 k74_heap) HR0_0.out) (bq1_ HB.out GE424.out))); (case side2 => exact Kd.V_mk HC0_2.out (Kd.F_below (Kd.C_F (Kd.heap_int .i64) HR0_2.out) (bq1_ HB.out GE424.out))); rintro e w22 ⟨v429, v433, rfl, ho0, ho1, hb⟩; refine ⟨_, rfl, ?_⟩; have HO430 := Aside0.mk (Kd.V_lower (Kd.V_mono (ok' := fun k_ => k_ ≠ gb424) ho0 (fun k_ hk_ => Or.elim hk_ (fun hs_ => Or.elim hs_ (fun hs_ => fun e_ => Nat.not_le.2 hs_ (by rw [e_]; exact GW424.out)) (fun hs_ => fun e_ => Nat.not_le.2 hs_ (by rw [e_]; exact GW424.out))) (fun hn_ => (mvF_ BK424.out hn_)))) (below_size (bq1_ HB.out GE424.out))); have HO434 := Aside0.mk (Kd.V_lower (Kd.V_mono (ok' := fun k_ => k_ ≠ gb424) ho1 (fun k_ hk_ => Or.elim hk_ (fun hs_ => Or.elim hs_ (fun hs_ => fun e_ => Nat.not_le.2 hs_ (by rw [e_]; exact GW424.out)) (fun hs_ => fun e_ => Nat.not_le.2 hs_ (by rw [e_]; exact GW424.out))) (fun hn_ => (mvF_ BK424.out hn_)))) (below_size (bq1_ HB.out GE424.out))); replace BK424 := mvB_ BK424.out hb; replace HB := Aside0.mk (below_step (bq1_ HB.out GE424.out) hb); (try clear hb); (try clear ho0); (try clear ho1)) | ((with_reducible refine gate_dst (N := 6) rfl ?_); (try (refine gate_guard (by rfl) ?_; dsimp only)); refine box_event ?hg (N := 6) ?hd (cs := #[.slice none 0 0, .int .i64 0, .slice none 0 0]) (t := 25) ?hr ?_; (case hd => rfl); (case hg => rfl); (case hr => first | (go_simp; done) | (go_simp; rfl)); intro gb437 hg w23 hbox hb; have BK437 := Aside0.mk (hbox); have GW437 := Aside0.mk ((by rw [hg]; exact (below_size (bq1_ HB.out GE424.out)) : w.heap.size ≤ gb437)); have GE437 := Aside0.mk ((by rw [hg]; exact (below_size (bq1_ HB.out GE424.out)) : w.heap.size ≤ gb437)); have NB424_437 := Aside0.mk ((by rw [hg]; exact Nat.ne_of_lt (blk_lt (g := gb424) (o := .cells #[.slice A0_0 l0_0.length c0_0, .int .i64 a0_1, .slice A0_2 l0_2.length c0_2] 25 (0, 0)) (mvK_ BK424.out)) : gb424 ≠ gb437)); have NB437_424 := Aside0.mk ((by rw [hg]; exact Nat.ne_of_gt (blk_lt (g := gb424) (o := .cells #[.slice A0_0 l0_0.length c0_0, .int .i64 a0_1, .slice A0_2 l0_2.length c0_2] 25 (0, 0)) (mvK_ BK424.out)) : gb437 ≠ gb424)); replace HO430 := Aside0.mk (Kd.V_below (Kd.V_elderB (mvV_ HO430.out) gb437 (Nat.le_of_eq hg.symm)) hb); replace HO434 := Aside0.mk (Kd.V_below (Kd.V_elderB (mvV_ HO434.out) gb437 (Nat.le_of_eq hg.symm)) hb); replace BK424 := mvB_ BK424.out hb; replace HB := Aside0.mk (below_step (bq1_ HB.out GE424.out) hb); clear hb hbox hg; obtain ⟨Ao24, co24, eo24⟩ := Kd.V_slice HO430.out; subst eo24; have hnb25 := NB437_424.out; have hnc25 := NB424_437.out; have hcz26_0 := cz0_ BK437.out; have hcz26_1 := cz1_ BK437.out; have hcz26_2 := cz2_ BK437.out; have hfz26_0 := blk_frozen BK437.out 0; have hfz26_1 := blk_frozen BK437.out 1; have hfz26_2 := blk_frozen BK437.out 2; obtain ⟨Ao27, co27, eo27⟩ := Kd.V_slice HO434.out; subst eo27) | ((with_reducible refine gate_store (t := 25) (p := 6) rfl ?_); refine store_event (t := 25) (p := 6) (v := ?vo_w28) (w1 := (((w23.setCell ⟨gb437, 0, none⟩ (.slice Ao24 t428.length co24)).setCell ⟨gb437, 1, none⟩ (.int .i64 t431)).setCell ⟨gb437, 2, none⟩ (.slice Ao27 t432.length co27))) ?hg ?ho ?hn ?hr ?_; (case ho => rfl); (case hg => rfl); (case hn => rfl); (case hr => first | (go_simp; done) | (go_simp; rfl)); intro w28 hw; have n0_ : Aside0 (Kd.V (Kd.slice 74 k74) 54 w28 w.heap.size (fun k_ => k_ ≠ gb424 ∧ k_ ≠ gb437) (.slice Ao24 t428.length co24) t428) := ⟨(by rw [hw]; exact (by (with_reducible repeat (first | apply Kd.V_alloc | apply Kd.V_drewN | apply Kd.V_drew)); exact Kd.V_mono (Kd.V_far (p := ⟨gb437, 2, none⟩) (Kd.V_far (p := ⟨gb437, 1, none⟩) (Kd.V_far (p := ⟨gb437, 0, none⟩) (Kd.V_mono HO430.out (fun k_ hk => (⟨hk, hk.2⟩ : _ ∧ k_ ≠ gb437))) (fun _ hk => hk.2) (.slice Ao24 t428.length co24)) (fun _ hk => hk.2) (.int .i64 t431)) (fun _ hk => hk.2) (.slice Ao27 t432.length co27)) (fun _ hk => ⟨hk.1.1, hk.1.2⟩)))⟩; have n1_ : Aside0 (Kd.V (Kd.int .i64) 3 w28 w.heap.size (fun k_ => k_ ≠ gb424 ∧ k_ ≠ gb437) (.slice Ao27 t432.length co27) t432) := ⟨(by rw [hw]; exact (by (with_reducible repeat (first | apply Kd.V_alloc | apply Kd.V_drewN | apply Kd.V_drew)); exact Kd.V_mono (Kd.V_far (p := ⟨gb437, 2, none⟩) (Kd.V_far (p := ⟨gb437, 1, none⟩) (Kd.V_far (p := ⟨gb437, 0, none⟩) (Kd.V_mono HO434.out (fun k_ hk => (⟨hk, hk.2⟩ : _ ∧ k_ ≠ gb437))) (fun _ hk => hk.2) (.slice Ao24 t428.length co24)) (fun _ hk => hk.2) (.int .i64 t431)) (fun _ hk => hk.2) (.slice Ao27 t432.length co27)) (fun _ hk => ⟨hk.1.1, hk.1.2⟩)))⟩; have n2_ : Aside0 (w28.heap[gb424]? = some (.cells #[.slice A0_0 l0_0.length c0_0, .int .i64 a0_1, .slice A0_2 l0_2.length c0_2] 25 (0, 0))) := ⟨(by rw [hw]; exact (by (with_reducible repeat (first | refine blk_drewN ?_ _ | refine blk_drew ?_ | refine blk_alloc ?_ _)); refine blk_far ?_ NB424_437.out _; (with_reducible repeat (first | refine blk_drewN ?_ _ | refine blk_drew ?_ | refine blk_alloc ?_ _)); refine blk_far ?_ NB424_437.out _; (with_reducible repeat (first | refine blk_drewN ?_ _ | refine blk_drew ?_ | refine blk_alloc ?_ _)); refine blk_far ?_ NB424_437.out _; (with_reducible repeat (first | refine blk_drewN ?_ _ | refine blk_drew ?_ | refine blk_alloc ?_ _)); exact BK424.out))⟩; have n3_ : Aside0 (w28.heap[gb437]? = some (.cells #[.slice Ao24 t428.length co24, .int .i64 t431, .slice Ao27 t432.length co27] 25 (0, 0))) := ⟨(by rw [hw]; exact (by (with_reducible repeat (first | refine blk_drewN ?_ _ | refine blk_drew ?_ | refine blk_alloc ?_ _)); refine blk_put (cs := #[.slice Ao24 t428.length co24, .int .i64 t431, .slice none 0 0]) ?_ 2 _ rfl; (with_reducible repeat (first | refine blk_drewN ?_ _ | refine blk_drew ?_ | refine blk_alloc ?_ _)); refine blk_put (cs := #[.slice Ao24 t428.length co24, .int .i64 0, .slice none 0 0]) ?_ 1 _ rfl; (with_reducible repeat (first | refine blk_drewN ?_ _ | refine blk_drew ?_ | refine blk_alloc ?_ _)); refine blk_put (cs := #[.slice none 0 0, .int .i64 0, .slice none 0 0]) ?_ 0 _ rfl; (with_reducible repeat (first | refine blk_drewN ?_ _ | refine blk_drew ?_ | refine blk_alloc ?_ _)); exact BK437.out))⟩; have n4_ : Aside0 (Below w.heap.size w w28) := ⟨(by rw [hw]; exact (bq2_ HB.out GE424.out GE437.out))⟩; clear hw; clear HO430; clear HO434; clear BK424; clear BK437; clear HB; have HO430 := n0_; have HO434 := n1_; have BK424 := n2_; have BK437 := n3_; have HB := n4_; clear n0_ n1_ n2_ n3_ n4_; have hcz29_0 := cz0_ BK437.out; have hcz29_1 := cz1_ BK437.out; have hcz29_2 := cz2_ BK437.out; have hfz29_0 := blk_frozen BK437.out 0; have hfz29_1 := blk_frozen BK437.out 1; have hfz29_2 := blk_frozen BK437.out 2) | ((with_reducible refine gate_callee (f := 17) rfl ?_); refine gL_ (some 33) Try.func17 #[.agg #[.slice Ao24 t428.length co24, .int .i64 t431, .slice Ao27 t432.length co27], .int .i64 t435] ?_; (with_reducible refine (store_Free.calls kj3 (fun k_ => (k_ ≠ gb424 ∧ k_ ≠ gb437)) _ _ t428 t431 (fun k_ => (k_ ≠ gb424 ∧ k_ ≠ gb437)) _ _ t432 t435 t438 t441 t442 t445 _ ?side1 ?side2 A18.out).mono ?_); (case side1 => (with_reducible repeat (first | apply Kd.V_alloc | apply Kd.V_drewN | apply Kd.V_drew)); first | with_reducible exact HO430.out | exact HO430.out | exact Kd.V_mono HO430.out (fun _ h_ => by simpa only [and_assoc, and_comm, and_left_comm] using h_)); (case side2 => (with_reducible repeat (first | apply Kd.V_alloc | apply Kd.V_drewN | apply Kd.V_drew)); first | with_reducible exact HO434.out | exact HO434.out | exact Kd.V_mono HO434.out (fun _ h_ => by simpa only [and_assoc, and_comm, and_left_comm] using h_)); rintro e w30 ⟨v439, v443, rfl, ho0, ho1, hb⟩; refine ⟨_, rfl, ?_⟩; have HO440 := Aside0.mk (Kd.V_lower (Kd.V_mono (ok' := fun k_ => k_ ≠ gb424 ∧ k_ ≠ gb437) ho0 (fun k_ hk_ => ⟨Or.elim hk_ (fun hs_ => Or.elim hs_ (fun hs_ => hs_.1) (fun hs_ => hs_.1)) (fun hn_ => (mvF_ BK424.out hn_)), Or.elim hk_ (fun hs_ => Or.elim hs_ (fun hs_ => hs_.2) (fun hs_ => hs_.2)) (fun hn_ => (mvF_ BK437.out hn_))⟩)) (below_size (bq2_ HB.out GE424.out GE437.out))); have HO444 := Aside0.mk (Kd.V_lower (Kd.V_mono (ok' := fun k_ => k_ ≠ gb424 ∧ k_ ≠ gb437) ho1 (fun k_ hk_ => ⟨Or.elim hk_ (fun hs_ => Or.elim hs_ (fun hs_ => hs_.1) (fun hs_ => hs_.1)) (fun hn_ => (mvF_ BK424.out hn_)), Or.elim hk_ (fun hs_ => Or.elim hs_ (fun hs_ => hs_.2) (fun hs_ => hs_.2)) (fun hn_ => (mvF_ BK437.out hn_))⟩)) (below_size (bq2_ HB.out GE424.out GE437.out))); replace HO430 := mbV_ HO430.out hb; replace HO434 := mbV_ HO434.out hb; replace BK424 := mvB_ BK424.out hb; replace BK437 := mvB_ BK437.out hb; replace HB := Aside0.mk (below_step (bq2_ HB.out GE424.out GE437.out) hb); (try clear hb); (try clear ho0); (try clear ho1)) | ((with_reducible refine gate_dst (N := 9) rfl ?_); (try (refine gate_guard (by rfl) ?_; dsimp only)); refine box_event ?hg (N := 9) ?hd (cs := #[.slice none 0 0, .int .i64 0, .slice none 0 0]) (t := 25) ?hr ?_; (case hd => rfl); (case hg => rfl); (case hr => first | (go_simp; done) | (go_simp; rfl)); intro gb446 hg w31 hbox hb; have BK446 := Aside0.mk (hbox); have GW446 := Aside0.mk ((by rw [hg]; exact (below_size (bq2_ HB.out GE424.out GE437.out)) : w.heap.size ≤ gb446)); have GE446 := Aside0.mk ((by rw [hg]; exact (below_size (bq2_ HB.out GE424.out GE437.out)) : w.heap.size ≤ gb446)); have NB424_446 := Aside0.mk ((by rw [hg]; exact Nat.ne_of_lt (blk_lt (g := gb424) (o := .cells #[.slice A0_0 l0_0.length c0_0, .int .i64 a0_1, .slice A0_2 l0_2.length c0_2] 25 (0, 0)) (mvK_ BK424.out)) : gb424 ≠ gb446)); have NB446_424 := Aside0.mk ((by rw [hg]; exact Nat.ne_of_gt (blk_lt (g := gb424) (o := .cells #[.slice A0_0 l0_0.length c0_0, .int .i64 a0_1, .slice A0_2 l0_2.length c0_2] 25 (0, 0)) (mvK_ BK424.out)) : gb446 ≠ gb424)); have NB437_446 := Aside0.mk ((by rw [hg]; exact Nat.ne_of_lt (blk_lt (g := gb437) (o := .cells #[.slice Ao24 t428.length co24, .int .i64 t431, .slice Ao27 t432.length co27] 25 (0, 0)) (mvK_ BK437.out)) : gb437 ≠ gb446)); have NB446_437 := Aside0.mk ((by rw [hg]; exact Nat.ne_of_gt (blk_lt (g := gb437) (o := .cells #[.slice Ao24 t428.length co24, .int .i64 t431, .slice Ao27 t432.length co27] 25 (0, 0)) (mvK_ BK437.out)) : gb446 ≠ gb437)); replace HO430 := Aside0.mk (Kd.V_below (Kd.V_elderB (mvV_ HO430.out) gb446 (Nat.le_of_eq hg.symm)) hb); replace HO434 := Aside0.mk (Kd.V_below (Kd.V_elderB (mvV_ HO434.out) gb446 (Nat.le_of_eq hg.symm)) hb); replace HO440 := Aside0.mk (Kd.V_below (Kd.V_elderB (mvV_ HO440.out) gb446 (Nat.le_of_eq hg.symm)) hb); replace HO444 := Aside0.mk (Kd.V_below (Kd.V_elderB (mvV_ HO444.out) gb446 (Nat.le_of_eq hg.symm)) hb); replace BK424 := mvB_ BK424.out hb; replace BK437 := mvB_ BK437.out hb; replace HB := Aside0.mk (below_step (bq2_ HB.out GE424.out GE437.out) hb); clear hb hbox hg; obtain ⟨Ao32, co32, eo32⟩ := Kd.V_slice HO440.out; subst eo32; have hnb33 := NB446_424.out; have hnc33 := NB424_446.out; have hnb34 := NB446_437.out; have hnc34 := NB437_446.out; have hcz35_0 := cz0_ BK446.out; have hcz35_1 := cz1_ BK446.out; have hcz35_2 := cz2_ BK446.out; have hfz35_0 := blk_frozen BK446.out 0; have hfz35_1 := blk_frozen BK446.out 1; have hfz35_2 := blk_frozen BK446.out 2; obtain ⟨Ao36, co36, eo36⟩ := Kd.V_slice HO444.out; subst eo36) | ((with_reducible refine gate_store (t := 25) (p := 9) rfl ?_); refine store_event (t := 25) (p := 9) (v := ?vo_w37) (w1 := (((w31.setCell ⟨gb446, 0, none⟩ (.slice Ao32 t438.length co32)).setCell ⟨gb446, 1, none⟩ (.int .i64 t441)).setCell ⟨gb446, 2, none⟩ (.slice Ao36 t442.length co36))) ?hg ?ho ?hn ?hr ?_; (case ho => rfl); (case hg => rfl); (case hn => rfl); (case hr => first | (go_simp; done) | (go_simp; rfl)); intro w37 hw; have n0_ : Aside0 (Kd.V (Kd.slice 74 k74) 54 w37 w.heap.size (fun k_ => k_ ≠ gb424 ∧ k_ ≠ gb437 ∧ k_ ≠ gb446) (.slice Ao24 t428.length co24) t428) := ⟨(by rw [hw]; exact (by (with_reducible repeat (first | apply Kd.V_alloc | apply Kd.V_drewN | apply Kd.V_drew)); exact Kd.V_mono (Kd.V_far (p := ⟨gb446, 2, none⟩) (Kd.V_far (p := ⟨gb446, 1, none⟩) (Kd.V_far (p := ⟨gb446, 0, none⟩) (Kd.V_mono HO430.out (fun k_ hk => (⟨hk, hk.2⟩ : _ ∧ k_ ≠ gb446))) (fun _ hk => hk.2) (.slice Ao32 t438.length co32)) (fun _ hk => hk.2) (.int .i64 t441)) (fun _ hk => hk.2) (.slice Ao36 t442.length co36)) (fun _ hk => ⟨hk.1.1.1, ⟨hk.1.1.2, hk.1.2⟩⟩)))⟩; have n1_ : Aside0 (Kd.V (Kd.int .i64) 3 w37 w.heap.size (fun k_ => k_ ≠ gb424 ∧ k_ ≠ gb437 ∧ k_ ≠ gb446) (.slice Ao27 t432.length co27) t432) := ⟨(by rw [hw]; exact (by (with_reducible repeat (first | apply Kd.V_alloc | apply Kd.V_drewN | apply Kd.V_drew)); exact Kd.V_mono (Kd.V_far (p := ⟨gb446, 2, none⟩) (Kd.V_far (p := ⟨gb446, 1, none⟩) (Kd.V_far (p := ⟨gb446, 0, none⟩) (Kd.V_mono HO434.out (fun k_ hk => (⟨hk, hk.2⟩ : _ ∧ k_ ≠ gb446))) (fun _ hk => hk.2) (.slice Ao32 t438.length co32)) (fun _ hk => hk.2) (.int .i64 t441)) (fun _ hk => hk.2) (.slice Ao36 t442.length co36)) (fun _ hk => ⟨hk.1.1.1, ⟨hk.1.1.2, hk.1.2⟩⟩)))⟩; have n2_ : Aside0 (Kd.V (Kd.slice 74 k74) 54 w37 w.heap.size (fun k_ => k_ ≠ gb424 ∧ k_ ≠ gb437 ∧ k_ ≠ gb446) (.slice Ao32 t438.length co32) t438) := ⟨(by rw [hw]; exact (by (with_reducible repeat (first | apply Kd.V_alloc | apply Kd.V_drewN | apply Kd.V_drew)); exact Kd.V_mono (Kd.V_far (p := ⟨gb446, 2, none⟩) (Kd.V_far (p := ⟨gb446, 1, none⟩) (Kd.V_far (p := ⟨gb446, 0, none⟩) (Kd.V_mono HO440.out (fun k_ hk => (⟨hk, hk.2⟩ : _ ∧ k_ ≠ gb446))) (fun _ hk => hk.2) (.slice Ao32 t438.length co32)) (fun _ hk => hk.2) (.int .i64 t441)) (fun _ hk => hk.2) (.slice Ao36 t442.length co36)) (fun _ hk => ⟨hk.1.1.1, ⟨hk.1.1.2, hk.1.2⟩⟩)))⟩; have n3_ : Aside0 (Kd.V (Kd.int .i64) 3 w37 w.heap.size (fun k_ => k_ ≠ gb424 ∧ k_ ≠ gb437 ∧ k_ ≠ gb446) (.slice Ao36 t442.length co36) t442) := ⟨(by rw [hw]; exact (by (with_reducible repeat (first | apply Kd.V_alloc | apply Kd.V_drewN | apply Kd.V_drew)); exact Kd.V_mono (Kd.V_far (p := ⟨gb446, 2, none⟩) (Kd.V_far (p := ⟨gb446, 1, none⟩) (Kd.V_far (p := ⟨gb446, 0, none⟩) (Kd.V_mono HO444.out (fun k_ hk => (⟨hk, hk.2⟩ : _ ∧ k_ ≠ gb446))) (fun _ hk => hk.2) (.slice Ao32 t438.length co32)) (fun _ hk => hk.2) (.int .i64 t441)) (fun _ hk => hk.2) (.slice Ao36 t442.length co36)) (fun _ hk => ⟨hk.1.1.1, ⟨hk.1.1.2, hk.1.2⟩⟩)))⟩; have n4_ : Aside0 (w37.heap[gb424]? = some (.cells #[.slice A0_0 l0_0.length c0_0, .int .i64 a0_1, .slice A0_2 l0_2.length c0_2] 25 (0, 0))) := ⟨(by rw [hw]; exact (by (with_reducible repeat (first | refine blk_drewN ?_ _ | refine blk_drew ?_ | refine blk_alloc ?_ _)); refine blk_far ?_ NB424_446.out _; (with_reducible repeat (first | refine blk_drewN ?_ _ | refine blk_drew ?_ | refine blk_alloc ?_ _)); refine blk_far ?_ NB424_446.out _; (with_reducible repeat (first | refine blk_drewN ?_ _ | refine blk_drew ?_ | refine blk_alloc ?_ _)); refine blk_far ?_ NB424_446.out _; (with_reducible repeat (first | refine blk_drewN ?_ _ | refine blk_drew ?_ | refine blk_alloc ?_ _)); exact BK424.out))⟩; have n5_ : Aside0 (w37.heap[gb437]? = some (.cells #[.slice Ao24 t428.length co24, .int .i64 t431, .slice Ao27 t432.length co27] 25 (0, 0))) := ⟨(by rw [hw]; exact (by (with_reducible repeat (first | refine blk_drewN ?_ _ | refine blk_drew ?_ | refine blk_alloc ?_ _)); refine blk_far ?_ NB437_446.out _; (with_reducible repeat (first | refine blk_drewN ?_ _ | refine blk_drew ?_ | refine blk_alloc ?_ _)); refine blk_far ?_ NB437_446.out _; (with_reducible repeat (first | refine blk_drewN ?_ _ | refine blk_drew ?_ | refine blk_alloc ?_ _)); refine blk_far ?_ NB437_446.out _; (with_reducible repeat (first | refine blk_drewN ?_ _ | refine blk_drew ?_ | refine blk_alloc ?_ _)); exact BK437.out))⟩; have n6_ : Aside0 (w37.heap[gb446]? = some (.cells #[.slice Ao32 t438.length co32, .int .i64 t441, .slice Ao36 t442.length co36] 25 (0, 0))) := ⟨(by rw [hw]; exact (by (with_reducible repeat (first | refine blk_drewN ?_ _ | refine blk_drew ?_ | refine blk_alloc ?_ _)); refine blk_put (cs := #[.slice Ao32 t438.length co32, .int .i64 t441, .slice none 0 0]) ?_ 2 _ rfl; (with_reducible repeat (first | refine blk_drewN ?_ _ | refine blk_drew ?_ | refine blk_alloc ?_ _)); refine blk_put (cs := #[.slice Ao32 t438.length co32, .int .i64 0, .slice none 0 0]) ?_ 1 _ rfl; (with_reducible repeat (first | refine blk_drewN ?_ _ | refine blk_drew ?_ | refine blk_alloc ?_ _)); refine blk_put (cs := #[.slice none 0 0, .int .i64 0, .slice none 0 0]) ?_ 0 _ rfl; (with_reducible repeat (first | refine blk_drewN ?_ _ | refine blk_drew ?_ | refine blk_alloc ?_ _)); exact BK446.out))⟩; have n7_ : Aside0 (Below w.heap.size w w37) := ⟨(by rw [hw]; exact (bq3_ HB.out GE424.out GE437.out GE446.out))⟩; clear hw; clear HO430; clear HO434; clear HO440; clear HO444; clear BK424; clear BK437; clear BK446; clear HB; have HO430 := n0_; have HO434 := n1_; have HO440 := n2_; have HO444 := n3_; have BK424 := n4_; have BK437 := n5_; have BK446 := n6_; have HB := n7_; clear n0_ n1_ n2_ n3_ n4_ n5_ n6_ n7_; have hcz38_0 := cz0_ BK424.out; have hcz38_1 := cz1_ BK424.out; have hcz38_2 := cz2_ BK424.out; have hfz38_0 := blk_frozen BK424.out 0; have hfz38_1 := blk_frozen BK424.out 1; have hfz38_2 := blk_frozen BK424.out 2) | ((with_reducible refine gate_callee (f := 17) rfl ?_); refine gL_ (some 39) Try.func17 #[.agg #[.slice A0_0 l0_0.length c0_0, .int .i64 a0_1, .slice A0_2 l0_2.length c0_2], .int .i64 a1] ?_; (with_reducible refine (store_Free.calls kj3 (fun k_ => k_ < w.heap.size) _ _ l0_0 a0_1 (fun k_ => k_ < w.heap.size) _ _ l0_2 a1 t447 t450 t451 t454 _ ?side1 ?side2 A19.out).mono ?_); (case side1 => exact Kd.V_mk HC0_0.out (Kd.F_below (Kd.C_F (Kd.heap_slice 74 k74_heap) HR0_0.out) (bq3_ HB.out GE424.out GE437.out GE446.out))); (case side2 => exact Kd.V_mk HC0_2.out (Kd.F_below (Kd.C_F (Kd.heap_int .i64) HR0_2.out) (bq3_ HB.out GE424.out GE437.out GE446.out))); rintro e w39 ⟨v448, v452, rfl, ho0, ho1, hb⟩; refine ⟨_, rfl, ?_⟩; have HO449 := Aside0.mk (Kd.V_lower (Kd.V_mono (ok' := fun k_ => k_ ≠ gb424 ∧ k_ ≠ gb437 ∧ k_ ≠ gb446) ho0 (fun k_ hk_ => ⟨Or.elim hk_ (fun hs_ => Or.elim hs_ (fun hs_ => fun e_ => Nat.not_le.2 hs_ (by rw [e_]; exact GW424.out)) (fun hs_ => fun e_ => Nat.not_le.2 hs_ (by rw [e_]; exact GW424.out))) (fun hn_ => (mvF_ BK424.out hn_)), Or.elim hk_ (fun hs_ => Or.elim hs_ (fun hs_ => fun e_ => Nat.not_le.2 hs_ (by rw [e_]; exact GW437.out)) (fun hs_ => fun e_ => Nat.not_le.2 hs_ (by rw [e_]; exact GW437.out))) (fun hn_ => (mvF_ BK437.out hn_)), Or.elim hk_ (fun hs_ => Or.elim hs_ (fun hs_ => fun e_ => Nat.not_le.2 hs_ (by rw [e_]; exact GW446.out)) (fun hs_ => fun e_ => Nat.not_le.2 hs_ (by rw [e_]; exact GW446.out))) (fun hn_ => (mvF_ BK446.out hn_))⟩)) (below_size (bq3_ HB.out GE424.out GE437.out GE446.out))); have HO453 := Aside0.mk (Kd.V_lower (Kd.V_mono (ok' := fun k_ => k_ ≠ gb424 ∧ k_ ≠ gb437 ∧ k_ ≠ gb446) ho1 (fun k_ hk_ => ⟨Or.elim hk_ (fun hs_ => Or.elim hs_ (fun hs_ => fun e_ => Nat.not_le.2 hs_ (by rw [e_]; exact GW424.out)) (fun hs_ => fun e_ => Nat.not_le.2 hs_ (by rw [e_]; exact GW424.out))) (fun hn_ => (mvF_ BK424.out hn_)), Or.elim hk_ (fun hs_ => Or.elim hs_ (fun hs_ => fun e_ => Nat.not_le.2 hs_ (by rw [e_]; exact GW437.out)) (fun hs_ => fun e_ => Nat.not_le.2 hs_ (by rw [e_]; exact GW437.out))) (fun hn_ => (mvF_ BK437.out hn_)), Or.elim hk_ (fun hs_ => Or.elim hs_ (fun hs_ => fun e_ => Nat.not_le.2 hs_ (by rw [e_]; exact GW446.out)) (fun hs_ => fun e_ => Nat.not_le.2 hs_ (by rw [e_]; exact GW446.out))) (fun hn_ => (mvF_ BK446.out hn_))⟩)) (below_size (bq3_ HB.out GE424.out GE437.out GE446.out))); replace HO430 := mbV_ HO430.out hb; replace HO434 := mbV_ HO434.out hb; replace HO440 := mbV_ HO440.out hb; replace HO444 := mbV_ HO444.out hb; replace BK424 := mvB_ BK424.out hb; replace BK437 := mvB_ BK437.out hb; replace BK446 := mvB_ BK446.out hb; replace HB := Aside0.mk (below_step (bq3_ HB.out GE424.out GE437.out GE446.out) hb); (try clear hb); (try clear ho0); (try clear ho1)) | ((with_reducible refine gate_dst (N := 11) rfl ?_); (try (refine gate_guard (by rfl) ?_; dsimp only)); refine box_event ?hg (N := 11) ?hd (cs := #[.slice none 0 0, .int .i64 0, .slice none 0 0]) (t := 25) ?hr ?_; (case hd => rfl); (case hg => rfl); (case hr => first | (go_simp; done) | (go_simp; rfl)); intro gb455 hg w40 hbox hb; have BK455 := Aside0.mk (hbox); have GW455 := Aside0.mk ((by rw [hg]; exact (below_size (bq3_ HB.out GE424.out GE437.out GE446.out)) : w.heap.size ≤ gb455)); have GE455 := Aside0.mk ((by rw [hg]; exact (below_size (bq3_ HB.out GE424.out GE437.out GE446.out)) : w.heap.size ≤ gb455)); have NB424_455 := Aside0.mk ((by rw [hg]; exact Nat.ne_of_lt (blk_lt (g := gb424) (o := .cells #[.slice A0_0 l0_0.length c0_0, .int .i64 a0_1, .slice A0_2 l0_2.length c0_2] 25 (0, 0)) (mvK_ BK424.out)) : gb424 ≠ gb455)); have NB455_424 := Aside0.mk ((by rw [hg]; exact Nat.ne_of_gt (blk_lt (g := gb424) (o := .cells #[.slice A0_0 l0_0.length c0_0, .int .i64 a0_1, .slice A0_2 l0_2.length c0_2] 25 (0, 0)) (mvK_ BK424.out)) : gb455 ≠ gb424)); have NB437_455 := Aside0.mk ((by rw [hg]; exact Nat.ne_of_lt (blk_lt (g := gb437) (o := .cells #[.slice Ao24 t428.length co24, .int .i64 t431, .slice Ao27 t432.length co27] 25 (0, 0)) (mvK_ BK437.out)) : gb437 ≠ gb455)); have NB455_437 := Aside0.mk ((by rw [hg]; exact Nat.ne_of_gt (blk_lt (g := gb437) (o := .cells #[.slice Ao24 t428.length co24, .int .i64 t431, .slice Ao27 t432.length co27] 25 (0, 0)) (mvK_ BK437.out)) : gb455 ≠ gb437)); have NB446_455 := Aside0.mk ((by rw [hg]; exact Nat.ne_of_lt (blk_lt (g := gb446) (o := .cells #[.slice Ao32 t438.length co32, .int .i64 t441, .slice Ao36 t442.length co36] 25 (0, 0)) (mvK_ BK446.out)) : gb446 ≠ gb455)); have NB455_446 := Aside0.mk ((by rw [hg]; exact Nat.ne_of_gt (blk_lt (g := gb446) (o := .cells #[.slice Ao32 t438.length co32, .int .i64 t441, .slice Ao36 t442.length co36] 25 (0, 0)) (mvK_ BK446.out)) : gb455 ≠ gb446)); replace HO430 := Aside0.mk (Kd.V_below (Kd.V_elderB (mvV_ HO430.out) gb455 (Nat.le_of_eq hg.symm)) hb); replace HO434 := Aside0.mk (Kd.V_below (Kd.V_elderB (mvV_ HO434.out) gb455 (Nat.le_of_eq hg.symm)) hb); replace HO440 := Aside0.mk (Kd.V_below (Kd.V_elderB (mvV_ HO440.out) gb455 (Nat.le_of_eq hg.symm)) hb); replace HO444 := Aside0.mk (Kd.V_below (Kd.V_elderB (mvV_ HO444.out) gb455 (Nat.le_of_eq hg.symm)) hb); replace HO449 := Aside0.mk (Kd.V_below (Kd.V_elderB (mvV_ HO449.out) gb455 (Nat.le_of_eq hg.symm)) hb); replace HO453 := Aside0.mk (Kd.V_below (Kd.V_elderB (mvV_ HO453.out) gb455 (Nat.le_of_eq hg.symm)) hb); replace BK424 := mvB_ BK424.out hb; replace BK437 := mvB_ BK437.out hb; replace BK446 := mvB_ BK446.out hb; replace HB := Aside0.mk (below_step (bq3_ HB.out GE424.out GE437.out GE446.out) hb); clear hb hbox hg; obtain ⟨Ao41, co41, eo41⟩ := Kd.V_slice HO449.out; subst eo41; have hnb42 := NB455_424.out; have hnc42 := NB424_455.out; have hnb43 := NB455_437.out; have hnc43 := NB437_455.out; have hnb44 := NB455_446.out; have hnc44 := NB446_455.out; have hcz45_0 := cz0_ BK455.out; have hcz45_1 := cz1_ BK455.out; have hcz45_2 := cz2_ BK455.out; have hfz45_0 := blk_frozen BK455.out 0; have hfz45_1 := blk_frozen BK455.out 1; have hfz45_2 := blk_frozen BK455.out 2; obtain ⟨Ao46, co46, eo46⟩ := Kd.V_slice HO453.out; subst eo46))
    (try simp only [Act.put, sA_, sB_, sC_])
    go_cut [13] (fun v13 wc => ∃ (kq : Nat) (x13_19 : Bool), v13 = .bool x13_19 ∧ Aside0 (fullerlaw18_StorePins.j1 kq t425 t435 t436 t445 x13_19 l0_0 a0_1 l0_2 t428 t431 t432 t438 t441 t442 = some r) ∧ Aside0 (kq ≤ kj3) ∧ Aside0 (Kd.V (Kd.slice 74 k74) 54 wc w.heap.size (fun k_ => k_ ≠ gb424 ∧ k_ ≠ gb437 ∧ k_ ≠ gb446 ∧ k_ ≠ gb455) (.slice Ao24 t428.length co24) t428) ∧ Aside0 (Kd.V (Kd.int .i64) 3 wc w.heap.size (fun k_ => k_ ≠ gb424 ∧ k_ ≠ gb437 ∧ k_ ≠ gb446 ∧ k_ ≠ gb455) (.slice Ao27 t432.length co27) t432) ∧ Aside0 (Kd.V (Kd.slice 74 k74) 54 wc w.heap.size (fun k_ => k_ ≠ gb424 ∧ k_ ≠ gb437 ∧ k_ ≠ gb446 ∧ k_ ≠ gb455) (.slice Ao32 t438.length co32) t438) ∧ Aside0 (Kd.V (Kd.int .i64) 3 wc w.heap.size (fun k_ => k_ ≠ gb424 ∧ k_ ≠ gb437 ∧ k_ ≠ gb446 ∧ k_ ≠ gb455) (.slice Ao36 t442.length co36) t442) ∧ Aside0 (Kd.V (Kd.slice 74 k74) 54 wc w.heap.size (fun k_ => k_ ≠ gb424 ∧ k_ ≠ gb437 ∧ k_ ≠ gb446 ∧ k_ ≠ gb455) (.slice Ao41 t447.length co41) t447) ∧ Aside0 (Kd.V (Kd.int .i64) 3 wc w.heap.size (fun k_ => k_ ≠ gb424 ∧ k_ ≠ gb437 ∧ k_ ≠ gb446 ∧ k_ ≠ gb455) (.slice Ao46 t451.length co46) t451) ∧ Aside0 (wc.heap[gb424]? = some (.cells #[(.slice A0_0 l0_0.length c0_0), .int .i64 a0_1, (.slice A0_2 l0_2.length c0_2)] 25 (0, 0))) ∧ Aside0 (wc.heap[gb437]? = some (.cells #[(.slice Ao24 t428.length co24), .int .i64 t431, (.slice Ao27 t432.length co27)] 25 (0, 0))) ∧ Aside0 (wc.heap[gb446]? = some (.cells #[(.slice Ao32 t438.length co32), .int .i64 t441, (.slice Ao36 t442.length co36)] 25 (0, 0))) ∧ Aside0 (wc.heap[gb455]? = some (.cells #[(.slice Ao41 t447.length co41), .int .i64 t450, (.slice Ao46 t451.length co46)] 25 (0, 0))) ∧ Aside0 (Below w.heap.size w wc))
    case first =>
     have H := HC20.out
     clear HC20
     replace H := Option.bind_eq_some_iff.mp H
     obtain ⟨t456, A470, H⟩ := H
     replace H : (if ((t454 == 0) == t456) = true then (if t454 = 0 then (if (t451.length : Int) = (wrap64 ((l0_2.length : Int) - 1)) then (fullerlaw18_StorePins.j1 kj3 t425 t435 t436 t445 true l0_0 a0_1 l0_2 t428 t431 t432 t438 t441 t442) else (if t454 = 180 then ((fullerref18_Same.f kj3 t447 t450 t451 l0_0 a0_1 l0_2).bind fun t457 => (fullerlaw18_StorePins.j1 kj3 t425 t435 t436 t445 t457 l0_0 a0_1 l0_2 t428 t431 t432 t438 t441 t442)) else (fullerlaw18_StorePins.j1 kj3 t425 t435 t436 t445 false l0_0 a0_1 l0_2 t428 t431 t432 t438 t441 t442))) else (if t454 = 180 then ((fullerref18_Same.f kj3 t447 t450 t451 l0_0 a0_1 l0_2).bind fun t458 => (fullerlaw18_StorePins.j1 kj3 t425 t435 t436 t445 t458 l0_0 a0_1 l0_2 t428 t431 t432 t438 t441 t442)) else (fullerlaw18_StorePins.j1 kj3 t425 t435 t436 t445 false l0_0 a0_1 l0_2 t428 t431 t432 t438 t441 t442))) else (fullerlaw18_StorePins.j1 kj3 t425 t435 t436 t445 false l0_0 a0_1 l0_2 t428 t431 t432 t438 t441 t442)) = some r := H
     have A47 := Aside0.mk A470
     clear A470
     by_cases c48 : ((t454 == 0) == t456) = true
     ·rw [if_pos c48] at H
      have c48b0 : ((t454 == 0) == t456) = true := c48
      (try (have c48b1 : decide ((t454 == 0) = t456) = true := by simpa using c48))
      (try (have c48b2 : ((t454 == 0) == t456) = true := by simpa using c48))
      clear c48
      (first | rw [c48b0] | (simp only [i64_w, i32_w]; rw [c48b0]) | rw [c48b1] | skip)
      by_cases c49 : t454 = 0
      ·rw [if_pos c49] at H
       obtain ⟨c49b0, c49b1⟩ := eqT_ c49
       have c49b2 : t456 = true := by simpa [c49b0] using c48b0
       clear c49
       by_cases c50 : (t451.length : Int) = (wrap64 ((l0_2.length : Int) - 1))
       ·rw [if_pos c50] at H
        obtain ⟨c50b0, c50b1⟩ := eqT_ c50
        clear c50
        have H' := Aside0.mk H
        clear H
        have hnb51 := NB424_437.out
        have hnc51 := NB437_424.out
        have hnb52 := NB424_446.out
        have hnc52 := NB446_424.out
        have hnb53 := NB424_455.out
        have hnc53 := NB455_424.out
        have hcz54_0 := cz0_ BK424.out
        have hcz54_1 := cz1_ BK424.out
        have hcz54_2 := cz2_ BK424.out
        have hfz54_0 := blk_frozen BK424.out 0
        have hfz54_1 := blk_frozen BK424.out 1
        have hfz54_2 := blk_frozen BK424.out 2
        go_wp2_with (first | ((with_reducible refine gate_callee (f := 14) rfl ?_); refine gL_ (some 47) Try.func14 #[.slice A0_2 l0_2.length c0_2, .int .i64 a1] ?_; (with_reducible refine (fullerref10_In.calls kj3 _ _ l0_2 a1 t456 _ ?side1 ?side2 A47.out).mono ?_); (case side1 => exact Kd.C_below HR0_2.out (bq4_ HB.out GE424.out GE437.out GE446.out GE455.out)); (case side2 => exact HC0_2.out); rintro e w' ⟨rfl, ⟨nd, rfl⟩⟩; refine ⟨_, rfl, ?_⟩; have hnb55 := NB455_437.out; have hnc55 := NB437_455.out; have hnb56 := NB455_446.out; have hnc56 := NB446_455.out; have hcz57_0 := cz0_ BK455.out; have hcz57_1 := cz1_ BK455.out; have hcz57_2 := cz2_ BK455.out; have hfz57_0 := blk_frozen BK455.out 0; have hfz57_1 := blk_frozen BK455.out 1; have hfz57_2 := blk_frozen BK455.out 2))
        go_meet
        case rel => exact ⟨_, (true), (by first | rfl | (simp; done) | (simp [*]; done)), H', ⟨by have := HJ3.out; first | omega | exact Nat.le_refl _⟩, ⟨by (with_reducible repeat (first | apply Kd.V_alloc | apply Kd.V_drewN | apply Kd.V_drew)); exact Kd.V_mono (Kd.V_far (p := ⟨gb455, 2, none⟩) (Kd.V_far (p := ⟨gb455, 1, none⟩) (Kd.V_far (p := ⟨gb455, 0, none⟩) (Kd.V_mono HO430.out (fun k_ hk => (⟨hk, hk.2⟩ : _ ∧ k_ ≠ gb455))) (fun _ hk => hk.2) (.slice Ao41 t447.length co41)) (fun _ hk => hk.2) (.int .i64 t450)) (fun _ hk => hk.2) (.slice Ao46 t451.length co46)) (fun _ hk => ⟨hk.1.1.1, ⟨hk.1.1.2.1, ⟨hk.1.1.2.2, hk.1.2⟩⟩⟩)⟩, ⟨by (with_reducible repeat (first | apply Kd.V_alloc | apply Kd.V_drewN | apply Kd.V_drew)); exact Kd.V_mono (Kd.V_far (p := ⟨gb455, 2, none⟩) (Kd.V_far (p := ⟨gb455, 1, none⟩) (Kd.V_far (p := ⟨gb455, 0, none⟩) (Kd.V_mono HO434.out (fun k_ hk => (⟨hk, hk.2⟩ : _ ∧ k_ ≠ gb455))) (fun _ hk => hk.2) (.slice Ao41 t447.length co41)) (fun _ hk => hk.2) (.int .i64 t450)) (fun _ hk => hk.2) (.slice Ao46 t451.length co46)) (fun _ hk => ⟨hk.1.1.1, ⟨hk.1.1.2.1, ⟨hk.1.1.2.2, hk.1.2⟩⟩⟩)⟩, ⟨by (with_reducible repeat (first | apply Kd.V_alloc | apply Kd.V_drewN | apply Kd.V_drew)); exact Kd.V_mono (Kd.V_far (p := ⟨gb455, 2, none⟩) (Kd.V_far (p := ⟨gb455, 1, none⟩) (Kd.V_far (p := ⟨gb455, 0, none⟩) (Kd.V_mono HO440.out (fun k_ hk => (⟨hk, hk.2⟩ : _ ∧ k_ ≠ gb455))) (fun _ hk => hk.2) (.slice Ao41 t447.length co41)) (fun _ hk => hk.2) (.int .i64 t450)) (fun _ hk => hk.2) (.slice Ao46 t451.length co46)) (fun _ hk => ⟨hk.1.1.1, ⟨hk.1.1.2.1, ⟨hk.1.1.2.2, hk.1.2⟩⟩⟩)⟩, ⟨by (with_reducible repeat (first | apply Kd.V_alloc | apply Kd.V_drewN | apply Kd.V_drew)); exact Kd.V_mono (Kd.V_far (p := ⟨gb455, 2, none⟩) (Kd.V_far (p := ⟨gb455, 1, none⟩) (Kd.V_far (p := ⟨gb455, 0, none⟩) (Kd.V_mono HO444.out (fun k_ hk => (⟨hk, hk.2⟩ : _ ∧ k_ ≠ gb455))) (fun _ hk => hk.2) (.slice Ao41 t447.length co41)) (fun _ hk => hk.2) (.int .i64 t450)) (fun _ hk => hk.2) (.slice Ao46 t451.length co46)) (fun _ hk => ⟨hk.1.1.1, ⟨hk.1.1.2.1, ⟨hk.1.1.2.2, hk.1.2⟩⟩⟩)⟩, ⟨by (with_reducible repeat (first | apply Kd.V_alloc | apply Kd.V_drewN | apply Kd.V_drew)); exact Kd.V_mono (Kd.V_far (p := ⟨gb455, 2, none⟩) (Kd.V_far (p := ⟨gb455, 1, none⟩) (Kd.V_far (p := ⟨gb455, 0, none⟩) (Kd.V_mono HO449.out (fun k_ hk => (⟨hk, hk.2⟩ : _ ∧ k_ ≠ gb455))) (fun _ hk => hk.2) (.slice Ao41 t447.length co41)) (fun _ hk => hk.2) (.int .i64 t450)) (fun _ hk => hk.2) (.slice Ao46 t451.length co46)) (fun _ hk => ⟨hk.1.1.1, ⟨hk.1.1.2.1, ⟨hk.1.1.2.2, hk.1.2⟩⟩⟩)⟩, ⟨by (with_reducible repeat (first | apply Kd.V_alloc | apply Kd.V_drewN | apply Kd.V_drew)); exact Kd.V_mono (Kd.V_far (p := ⟨gb455, 2, none⟩) (Kd.V_far (p := ⟨gb455, 1, none⟩) (Kd.V_far (p := ⟨gb455, 0, none⟩) (Kd.V_mono HO453.out (fun k_ hk => (⟨hk, hk.2⟩ : _ ∧ k_ ≠ gb455))) (fun _ hk => hk.2) (.slice Ao41 t447.length co41)) (fun _ hk => hk.2) (.int .i64 t450)) (fun _ hk => hk.2) (.slice Ao46 t451.length co46)) (fun _ hk => ⟨hk.1.1.1, ⟨hk.1.1.2.1, ⟨hk.1.1.2.2, hk.1.2⟩⟩⟩)⟩, ⟨by (with_reducible repeat (first | refine blk_drewN ?_ _ | refine blk_drew ?_ | refine blk_alloc ?_ _)); refine blk_far ?_ NB424_455.out _; (with_reducible repeat (first | refine blk_drewN ?_ _ | refine blk_drew ?_ | refine blk_alloc ?_ _)); refine blk_far ?_ NB424_455.out _; (with_reducible repeat (first | refine blk_drewN ?_ _ | refine blk_drew ?_ | refine blk_alloc ?_ _)); refine blk_far ?_ NB424_455.out _; (with_reducible repeat (first | refine blk_drewN ?_ _ | refine blk_drew ?_ | refine blk_alloc ?_ _)); exact BK424.out⟩, ⟨by (with_reducible repeat (first | refine blk_drewN ?_ _ | refine blk_drew ?_ | refine blk_alloc ?_ _)); refine blk_far ?_ NB437_455.out _; (with_reducible repeat (first | refine blk_drewN ?_ _ | refine blk_drew ?_ | refine blk_alloc ?_ _)); refine blk_far ?_ NB437_455.out _; (with_reducible repeat (first | refine blk_drewN ?_ _ | refine blk_drew ?_ | refine blk_alloc ?_ _)); refine blk_far ?_ NB437_455.out _; (with_reducible repeat (first | refine blk_drewN ?_ _ | refine blk_drew ?_ | refine blk_alloc ?_ _)); exact BK437.out⟩, ⟨by (with_reducible repeat (first | refine blk_drewN ?_ _ | refine blk_drew ?_ | refine blk_alloc ?_ _)); refine blk_far ?_ NB446_455.out _; (with_reducible repeat (first | refine blk_drewN ?_ _ | refine blk_drew ?_ | refine blk_alloc ?_ _)); refine blk_far ?_ NB446_455.out _; (with_reducible repeat (first | refine blk_drewN ?_ _ | refine blk_drew ?_ | refine blk_alloc ?_ _)); refine blk_far ?_ NB446_455.out _; (with_reducible repeat (first | refine blk_drewN ?_ _ | refine blk_drew ?_ | refine blk_alloc ?_ _)); exact BK446.out⟩, ⟨by (with_reducible repeat (first | refine blk_drewN ?_ _ | refine blk_drew ?_ | refine blk_alloc ?_ _)); refine blk_put (cs := #[.slice Ao41 t447.length co41, .int .i64 t450, .slice none 0 0]) ?_ 2 _ rfl; (with_reducible repeat (first | refine blk_drewN ?_ _ | refine blk_drew ?_ | refine blk_alloc ?_ _)); refine blk_put (cs := #[.slice Ao41 t447.length co41, .int .i64 0, .slice none 0 0]) ?_ 1 _ rfl; (with_reducible repeat (first | refine blk_drewN ?_ _ | refine blk_drew ?_ | refine blk_alloc ?_ _)); refine blk_put (cs := #[.slice none 0 0, .int .i64 0, .slice none 0 0]) ?_ 0 _ rfl; (with_reducible repeat (first | refine blk_drewN ?_ _ | refine blk_drew ?_ | refine blk_alloc ?_ _)); exact BK455.out⟩, ⟨bq4_ HB.out GE424.out GE437.out GE446.out GE455.out⟩⟩
       ·rw [if_neg c50] at H
        have c50b0 : ((t451.length : Int) == (wrap64 ((l0_2.length : Int) - 1))) = false := beq_eq_false_iff_ne.mpr c50
        have c50b1 : ((t451.length : Int) != (wrap64 ((l0_2.length : Int) - 1))) = true := bne_iff_ne.mpr c50
        by_cases c58 : t454 = 180
        ·rw [if_pos c58] at H
         obtain ⟨c58b0, c58b1⟩ := eqT_ c58
         clear c58
         replace H := Option.bind_eq_some_iff.mp H
         obtain ⟨t457, A590, H⟩ := H
         replace H : (fullerlaw18_StorePins.j1 kj3 t425 t435 t436 t445 t457 l0_0 a0_1 l0_2 t428 t431 t432 t438 t441 t442) = some r := H
         have A59 := Aside0.mk A590
         clear A590
         have H' := Aside0.mk H
         clear H
         have hnb60 := NB424_437.out
         have hnc60 := NB437_424.out
         have hnb61 := NB424_446.out
         have hnc61 := NB446_424.out
         have hnb62 := NB424_455.out
         have hnc62 := NB455_424.out
         have hcz63_0 := cz0_ BK424.out
         have hcz63_1 := cz1_ BK424.out
         have hcz63_2 := cz2_ BK424.out
         have hfz63_0 := blk_frozen BK424.out 0
         have hfz63_1 := blk_frozen BK424.out 1
         have hfz63_2 := blk_frozen BK424.out 2
         go_wp2_with (first | ((with_reducible refine gate_callee (f := 14) rfl ?_); refine gL_ (some 47) Try.func14 #[.slice A0_2 l0_2.length c0_2, .int .i64 a1] ?_; (with_reducible refine (fullerref10_In.calls kj3 _ _ l0_2 a1 t456 _ ?side1 ?side2 A47.out).mono ?_); (case side1 => exact Kd.C_below HR0_2.out (bq4_ HB.out GE424.out GE437.out GE446.out GE455.out)); (case side2 => exact HC0_2.out); rintro e w' ⟨rfl, ⟨nd, rfl⟩⟩; refine ⟨_, rfl, ?_⟩; have hnb64 := NB455_437.out; have hnc64 := NB437_455.out; have hnb65 := NB455_446.out; have hnc65 := NB446_455.out; have hcz66_0 := cz0_ BK455.out; have hcz66_1 := cz1_ BK455.out; have hcz66_2 := cz2_ BK455.out; have hfz66_0 := blk_frozen BK455.out 0; have hfz66_1 := blk_frozen BK455.out 1; have hfz66_2 := blk_frozen BK455.out 2) | (go_at_call 12; (with_reducible refine (fullerref18_Same.calls kj3 _ _ t447 t450 _ _ t451 _ _ l0_0 a0_1 _ _ l0_2 t457 _ ?side1 ?side2 ?side3 ?side4 ?side5 ?side6 ?side7 ?side8 A59.out).mono ?_); (case side1 => refine (Kd.V_reads' (e := 54) (base := w.heap.size) (ok := fun k_ => ((k_ ≠ gb424 ∧ (k_ ≠ gb437 ∧ k_ ≠ gb446)) ∧ k_ ≠ gb455)) (n := t447.length) (c := co41) ?_).2.2; exact (by (with_reducible repeat (first | apply Kd.V_alloc | apply Kd.V_drewN | apply Kd.V_drew)); exact (Kd.V_mono (Kd.V_far (p := ⟨gb455, 2, none⟩) (Kd.V_far (p := ⟨gb455, 1, none⟩) (Kd.V_far (p := ⟨gb455, 0, none⟩) (Kd.V_mono HO449.out (fun k_ hk => (⟨hk, hk.2⟩ : _ ∧ k_ ≠ gb455))) (fun _ hk => hk.2) (.slice Ao41 t447.length co41)) (fun _ hk => hk.2) (.int .i64 t450)) (fun _ hk => hk.2) (.slice Ao46 t451.length co46)) (fun _ h_ => h_.1)))); (case side2 => exact (Kd.V_reads' HO449.out).2.1); (case side3 => refine (Kd.V_reads' (e := 3) (base := w.heap.size) (ok := fun k_ => ((k_ ≠ gb424 ∧ (k_ ≠ gb437 ∧ k_ ≠ gb446)) ∧ k_ ≠ gb455)) (n := t451.length) (c := co46) ?_).2.2; exact (by (with_reducible repeat (first | apply Kd.V_alloc | apply Kd.V_drewN | apply Kd.V_drew)); exact (Kd.V_mono (Kd.V_far (p := ⟨gb455, 2, none⟩) (Kd.V_far (p := ⟨gb455, 1, none⟩) (Kd.V_far (p := ⟨gb455, 0, none⟩) (Kd.V_mono HO453.out (fun k_ hk => (⟨hk, hk.2⟩ : _ ∧ k_ ≠ gb455))) (fun _ hk => hk.2) (.slice Ao41 t447.length co41)) (fun _ hk => hk.2) (.int .i64 t450)) (fun _ hk => hk.2) (.slice Ao46 t451.length co46)) (fun _ h_ => h_.1)))); (case side4 => exact (Kd.V_reads' HO453.out).2.1); (case side5 => exact Kd.C_below HR0_0.out (bq4_ HB.out GE424.out GE437.out GE446.out GE455.out)); (case side6 => exact HC0_0.out); (case side7 => exact Kd.C_below HR0_2.out (bq4_ HB.out GE424.out GE437.out GE446.out GE455.out)); (case side8 => exact HC0_2.out); rintro e w67 ⟨rfl, hb⟩; replace HO430 := Aside0.mk (Kd.V_below (by (with_reducible repeat (first | apply Kd.V_alloc | apply Kd.V_drewN | apply Kd.V_drew)); exact (Kd.V_mono (Kd.V_far (p := ⟨gb455, 2, none⟩) (Kd.V_far (p := ⟨gb455, 1, none⟩) (Kd.V_far (p := ⟨gb455, 0, none⟩) (Kd.V_mono HO430.out (fun k_ hk => (⟨hk, hk.2⟩ : _ ∧ k_ ≠ gb455))) (fun _ hk => hk.2) (.slice Ao41 t447.length co41)) (fun _ hk => hk.2) (.int .i64 t450)) (fun _ hk => hk.2) (.slice Ao46 t451.length co46)) (fun _ h_ => h_.1))) hb); replace HO434 := Aside0.mk (Kd.V_below (by (with_reducible repeat (first | apply Kd.V_alloc | apply Kd.V_drewN | apply Kd.V_drew)); exact (Kd.V_mono (Kd.V_far (p := ⟨gb455, 2, none⟩) (Kd.V_far (p := ⟨gb455, 1, none⟩) (Kd.V_far (p := ⟨gb455, 0, none⟩) (Kd.V_mono HO434.out (fun k_ hk => (⟨hk, hk.2⟩ : _ ∧ k_ ≠ gb455))) (fun _ hk => hk.2) (.slice Ao41 t447.length co41)) (fun _ hk => hk.2) (.int .i64 t450)) (fun _ hk => hk.2) (.slice Ao46 t451.length co46)) (fun _ h_ => h_.1))) hb); replace HO440 := Aside0.mk (Kd.V_below (by (with_reducible repeat (first | apply Kd.V_alloc | apply Kd.V_drewN | apply Kd.V_drew)); exact (Kd.V_mono (Kd.V_far (p := ⟨gb455, 2, none⟩) (Kd.V_far (p := ⟨gb455, 1, none⟩) (Kd.V_far (p := ⟨gb455, 0, none⟩) (Kd.V_mono HO440.out (fun k_ hk => (⟨hk, hk.2⟩ : _ ∧ k_ ≠ gb455))) (fun _ hk => hk.2) (.slice Ao41 t447.length co41)) (fun _ hk => hk.2) (.int .i64 t450)) (fun _ hk => hk.2) (.slice Ao46 t451.length co46)) (fun _ h_ => h_.1))) hb); replace HO444 := Aside0.mk (Kd.V_below (by (with_reducible repeat (first | apply Kd.V_alloc | apply Kd.V_drewN | apply Kd.V_drew)); exact (Kd.V_mono (Kd.V_far (p := ⟨gb455, 2, none⟩) (Kd.V_far (p := ⟨gb455, 1, none⟩) (Kd.V_far (p := ⟨gb455, 0, none⟩) (Kd.V_mono HO444.out (fun k_ hk => (⟨hk, hk.2⟩ : _ ∧ k_ ≠ gb455))) (fun _ hk => hk.2) (.slice Ao41 t447.length co41)) (fun _ hk => hk.2) (.int .i64 t450)) (fun _ hk => hk.2) (.slice Ao46 t451.length co46)) (fun _ h_ => h_.1))) hb); replace HO449 := Aside0.mk (Kd.V_below (by (with_reducible repeat (first | apply Kd.V_alloc | apply Kd.V_drewN | apply Kd.V_drew)); exact (Kd.V_mono (Kd.V_far (p := ⟨gb455, 2, none⟩) (Kd.V_far (p := ⟨gb455, 1, none⟩) (Kd.V_far (p := ⟨gb455, 0, none⟩) (Kd.V_mono HO449.out (fun k_ hk => (⟨hk, hk.2⟩ : _ ∧ k_ ≠ gb455))) (fun _ hk => hk.2) (.slice Ao41 t447.length co41)) (fun _ hk => hk.2) (.int .i64 t450)) (fun _ hk => hk.2) (.slice Ao46 t451.length co46)) (fun _ h_ => h_.1))) hb); replace HO453 := Aside0.mk (Kd.V_below (by (with_reducible repeat (first | apply Kd.V_alloc | apply Kd.V_drewN | apply Kd.V_drew)); exact (Kd.V_mono (Kd.V_far (p := ⟨gb455, 2, none⟩) (Kd.V_far (p := ⟨gb455, 1, none⟩) (Kd.V_far (p := ⟨gb455, 0, none⟩) (Kd.V_mono HO453.out (fun k_ hk => (⟨hk, hk.2⟩ : _ ∧ k_ ≠ gb455))) (fun _ hk => hk.2) (.slice Ao41 t447.length co41)) (fun _ hk => hk.2) (.int .i64 t450)) (fun _ hk => hk.2) (.slice Ao46 t451.length co46)) (fun _ h_ => h_.1))) hb); replace BK424 := Aside0.mk (blk_below (g := gb424) (o := .cells #[.slice A0_0 l0_0.length c0_0, .int .i64 a0_1, .slice A0_2 l0_2.length c0_2] 25 (0, 0)) (by (with_reducible repeat (first | refine blk_drewN ?_ _ | refine blk_drew ?_ | refine blk_alloc ?_ _)); refine blk_far ?_ NB424_455.out _; (with_reducible repeat (first | refine blk_drewN ?_ _ | refine blk_drew ?_ | refine blk_alloc ?_ _)); refine blk_far ?_ NB424_455.out _; (with_reducible repeat (first | refine blk_drewN ?_ _ | refine blk_drew ?_ | refine blk_alloc ?_ _)); refine blk_far ?_ NB424_455.out _; (with_reducible repeat (first | refine blk_drewN ?_ _ | refine blk_drew ?_ | refine blk_alloc ?_ _)); exact BK424.out) hb); replace BK437 := Aside0.mk (blk_below (g := gb437) (o := .cells #[.slice Ao24 t428.length co24, .int .i64 t431, .slice Ao27 t432.length co27] 25 (0, 0)) (by (with_reducible repeat (first | refine blk_drewN ?_ _ | refine blk_drew ?_ | refine blk_alloc ?_ _)); refine blk_far ?_ NB437_455.out _; (with_reducible repeat (first | refine blk_drewN ?_ _ | refine blk_drew ?_ | refine blk_alloc ?_ _)); refine blk_far ?_ NB437_455.out _; (with_reducible repeat (first | refine blk_drewN ?_ _ | refine blk_drew ?_ | refine blk_alloc ?_ _)); refine blk_far ?_ NB437_455.out _; (with_reducible repeat (first | refine blk_drewN ?_ _ | refine blk_drew ?_ | refine blk_alloc ?_ _)); exact BK437.out) hb); replace BK446 := Aside0.mk (blk_below (g := gb446) (o := .cells #[.slice Ao32 t438.length co32, .int .i64 t441, .slice Ao36 t442.length co36] 25 (0, 0)) (by (with_reducible repeat (first | refine blk_drewN ?_ _ | refine blk_drew ?_ | refine blk_alloc ?_ _)); refine blk_far ?_ NB446_455.out _; (with_reducible repeat (first | refine blk_drewN ?_ _ | refine blk_drew ?_ | refine blk_alloc ?_ _)); refine blk_far ?_ NB446_455.out _; (with_reducible repeat (first | refine blk_drewN ?_ _ | refine blk_drew ?_ | refine blk_alloc ?_ _)); refine blk_far ?_ NB446_455.out _; (with_reducible repeat (first | refine blk_drewN ?_ _ | refine blk_drew ?_ | refine blk_alloc ?_ _)); exact BK446.out) hb); replace BK455 := Aside0.mk (blk_below (g := gb455) (o := .cells #[.slice Ao41 t447.length co41, .int .i64 t450, .slice Ao46 t451.length co46] 25 (0, 0)) (by (with_reducible repeat (first | refine blk_drewN ?_ _ | refine blk_drew ?_ | refine blk_alloc ?_ _)); refine blk_put (cs := #[.slice Ao41 t447.length co41, .int .i64 t450, .slice none 0 0]) ?_ 2 _ rfl; (with_reducible repeat (first | refine blk_drewN ?_ _ | refine blk_drew ?_ | refine blk_alloc ?_ _)); refine blk_put (cs := #[.slice Ao41 t447.length co41, .int .i64 0, .slice none 0 0]) ?_ 1 _ rfl; (with_reducible repeat (first | refine blk_drewN ?_ _ | refine blk_drew ?_ | refine blk_alloc ?_ _)); refine blk_put (cs := #[.slice none 0 0, .int .i64 0, .slice none 0 0]) ?_ 0 _ rfl; (with_reducible repeat (first | refine blk_drewN ?_ _ | refine blk_drew ?_ | refine blk_alloc ?_ _)); exact BK455.out) hb); replace HB := Aside0.mk (below_step (bq4_ HB.out GE424.out GE437.out GE446.out GE455.out) hb); (try clear hb)))
         go_meet
         case rel => exact ⟨_, (t457), (by first | rfl | (simp; done) | (simp [*]; done)), H', ⟨by have := HJ3.out; first | omega | exact Nat.le_refl _⟩, ⟨by (with_reducible repeat (first | apply Kd.V_alloc | apply Kd.V_drewN | apply Kd.V_drew)); exact Kd.V_mono HO430.out (fun _ hk => ⟨hk.1.1, ⟨hk.1.2.1, ⟨hk.1.2.2, hk.2⟩⟩⟩)⟩, ⟨by (with_reducible repeat (first | apply Kd.V_alloc | apply Kd.V_drewN | apply Kd.V_drew)); exact Kd.V_mono HO434.out (fun _ hk => ⟨hk.1.1, ⟨hk.1.2.1, ⟨hk.1.2.2, hk.2⟩⟩⟩)⟩, ⟨by (with_reducible repeat (first | apply Kd.V_alloc | apply Kd.V_drewN | apply Kd.V_drew)); exact Kd.V_mono HO440.out (fun _ hk => ⟨hk.1.1, ⟨hk.1.2.1, ⟨hk.1.2.2, hk.2⟩⟩⟩)⟩, ⟨by (with_reducible repeat (first | apply Kd.V_alloc | apply Kd.V_drewN | apply Kd.V_drew)); exact Kd.V_mono HO444.out (fun _ hk => ⟨hk.1.1, ⟨hk.1.2.1, ⟨hk.1.2.2, hk.2⟩⟩⟩)⟩, ⟨by (with_reducible repeat (first | apply Kd.V_alloc | apply Kd.V_drewN | apply Kd.V_drew)); exact Kd.V_mono HO449.out (fun _ hk => ⟨hk.1.1, ⟨hk.1.2.1, ⟨hk.1.2.2, hk.2⟩⟩⟩)⟩, ⟨by (with_reducible repeat (first | apply Kd.V_alloc | apply Kd.V_drewN | apply Kd.V_drew)); exact Kd.V_mono HO453.out (fun _ hk => ⟨hk.1.1, ⟨hk.1.2.1, ⟨hk.1.2.2, hk.2⟩⟩⟩)⟩, ⟨by (with_reducible repeat (first | refine blk_drewN ?_ _ | refine blk_drew ?_ | refine blk_alloc ?_ _)); exact BK424.out⟩, ⟨by (with_reducible repeat (first | refine blk_drewN ?_ _ | refine blk_drew ?_ | refine blk_alloc ?_ _)); exact BK437.out⟩, ⟨by (with_reducible repeat (first | refine blk_drewN ?_ _ | refine blk_drew ?_ | refine blk_alloc ?_ _)); exact BK446.out⟩, ⟨by (with_reducible repeat (first | refine blk_drewN ?_ _ | refine blk_drew ?_ | refine blk_alloc ?_ _)); exact BK455.out⟩, ⟨bq4_ HB.out GE424.out GE437.out GE446.out GE455.out⟩⟩
        ·rw [if_neg c58] at H
         have c58b0 : (t454 == 180) = false := beq_eq_false_iff_ne.mpr c58
         have c58b1 : (t454 != 180) = true := bne_iff_ne.mpr c58
         have H' := Aside0.mk H
         clear H
         have hnb68 := NB424_437.out
         have hnc68 := NB437_424.out
         have hnb69 := NB424_446.out
         have hnc69 := NB446_424.out
         have hnb70 := NB424_455.out
         have hnc70 := NB455_424.out
         have hcz71_0 := cz0_ BK424.out
         have hcz71_1 := cz1_ BK424.out
         have hcz71_2 := cz2_ BK424.out
         have hfz71_0 := blk_frozen BK424.out 0
         have hfz71_1 := blk_frozen BK424.out 1
         have hfz71_2 := blk_frozen BK424.out 2
         go_wp2_with (first | ((with_reducible refine gate_callee (f := 14) rfl ?_); refine gL_ (some 47) Try.func14 #[.slice A0_2 l0_2.length c0_2, .int .i64 a1] ?_; (with_reducible refine (fullerref10_In.calls kj3 _ _ l0_2 a1 t456 _ ?side1 ?side2 A47.out).mono ?_); (case side1 => exact Kd.C_below HR0_2.out (bq4_ HB.out GE424.out GE437.out GE446.out GE455.out)); (case side2 => exact HC0_2.out); rintro e w' ⟨rfl, ⟨nd, rfl⟩⟩; refine ⟨_, rfl, ?_⟩; have hnb72 := NB455_437.out; have hnc72 := NB437_455.out; have hnb73 := NB455_446.out; have hnc73 := NB446_455.out; have hcz74_0 := cz0_ BK455.out; have hcz74_1 := cz1_ BK455.out; have hcz74_2 := cz2_ BK455.out; have hfz74_0 := blk_frozen BK455.out 0; have hfz74_1 := blk_frozen BK455.out 1; have hfz74_2 := blk_frozen BK455.out 2))
         go_meet
         case rel => exact ⟨_, (false), (by first | rfl | (simp; done) | (simp [*]; done)), H', ⟨by have := HJ3.out; first | omega | exact Nat.le_refl _⟩, ⟨by (with_reducible repeat (first | apply Kd.V_alloc | apply Kd.V_drewN | apply Kd.V_drew)); exact Kd.V_mono (Kd.V_far (p := ⟨gb455, 2, none⟩) (Kd.V_far (p := ⟨gb455, 1, none⟩) (Kd.V_far (p := ⟨gb455, 0, none⟩) (Kd.V_mono HO430.out (fun k_ hk => (⟨hk, hk.2⟩ : _ ∧ k_ ≠ gb455))) (fun _ hk => hk.2) (.slice Ao41 t447.length co41)) (fun _ hk => hk.2) (.int .i64 t450)) (fun _ hk => hk.2) (.slice Ao46 t451.length co46)) (fun _ hk => ⟨hk.1.1.1, ⟨hk.1.1.2.1, ⟨hk.1.1.2.2, hk.1.2⟩⟩⟩)⟩, ⟨by (with_reducible repeat (first | apply Kd.V_alloc | apply Kd.V_drewN | apply Kd.V_drew)); exact Kd.V_mono (Kd.V_far (p := ⟨gb455, 2, none⟩) (Kd.V_far (p := ⟨gb455, 1, none⟩) (Kd.V_far (p := ⟨gb455, 0, none⟩) (Kd.V_mono HO434.out (fun k_ hk => (⟨hk, hk.2⟩ : _ ∧ k_ ≠ gb455))) (fun _ hk => hk.2) (.slice Ao41 t447.length co41)) (fun _ hk => hk.2) (.int .i64 t450)) (fun _ hk => hk.2) (.slice Ao46 t451.length co46)) (fun _ hk => ⟨hk.1.1.1, ⟨hk.1.1.2.1, ⟨hk.1.1.2.2, hk.1.2⟩⟩⟩)⟩, ⟨by (with_reducible repeat (first | apply Kd.V_alloc | apply Kd.V_drewN | apply Kd.V_drew)); exact Kd.V_mono (Kd.V_far (p := ⟨gb455, 2, none⟩) (Kd.V_far (p := ⟨gb455, 1, none⟩) (Kd.V_far (p := ⟨gb455, 0, none⟩) (Kd.V_mono HO440.out (fun k_ hk => (⟨hk, hk.2⟩ : _ ∧ k_ ≠ gb455))) (fun _ hk => hk.2) (.slice Ao41 t447.length co41)) (fun _ hk => hk.2) (.int .i64 t450)) (fun _ hk => hk.2) (.slice Ao46 t451.length co46)) (fun _ hk => ⟨hk.1.1.1, ⟨hk.1.1.2.1, ⟨hk.1.1.2.2, hk.1.2⟩⟩⟩)⟩, ⟨by (with_reducible repeat (first | apply Kd.V_alloc | apply Kd.V_drewN | apply Kd.V_drew)); exact Kd.V_mono (Kd.V_far (p := ⟨gb455, 2, none⟩) (Kd.V_far (p := ⟨gb455, 1, none⟩) (Kd.V_far (p := ⟨gb455, 0, none⟩) (Kd.V_mono HO444.out (fun k_ hk => (⟨hk, hk.2⟩ : _ ∧ k_ ≠ gb455))) (fun _ hk => hk.2) (.slice Ao41 t447.length co41)) (fun _ hk => hk.2) (.int .i64 t450)) (fun _ hk => hk.2) (.slice Ao46 t451.length co46)) (fun _ hk => ⟨hk.1.1.1, ⟨hk.1.1.2.1, ⟨hk.1.1.2.2, hk.1.2⟩⟩⟩)⟩, ⟨by (with_reducible repeat (first | apply Kd.V_alloc | apply Kd.V_drewN | apply Kd.V_drew)); exact Kd.V_mono (Kd.V_far (p := ⟨gb455, 2, none⟩) (Kd.V_far (p := ⟨gb455, 1, none⟩) (Kd.V_far (p := ⟨gb455, 0, none⟩) (Kd.V_mono HO449.out (fun k_ hk => (⟨hk, hk.2⟩ : _ ∧ k_ ≠ gb455))) (fun _ hk => hk.2) (.slice Ao41 t447.length co41)) (fun _ hk => hk.2) (.int .i64 t450)) (fun _ hk => hk.2) (.slice Ao46 t451.length co46)) (fun _ hk => ⟨hk.1.1.1, ⟨hk.1.1.2.1, ⟨hk.1.1.2.2, hk.1.2⟩⟩⟩)⟩, ⟨by (with_reducible repeat (first | apply Kd.V_alloc | apply Kd.V_drewN | apply Kd.V_drew)); exact Kd.V_mono (Kd.V_far (p := ⟨gb455, 2, none⟩) (Kd.V_far (p := ⟨gb455, 1, none⟩) (Kd.V_far (p := ⟨gb455, 0, none⟩) (Kd.V_mono HO453.out (fun k_ hk => (⟨hk, hk.2⟩ : _ ∧ k_ ≠ gb455))) (fun _ hk => hk.2) (.slice Ao41 t447.length co41)) (fun _ hk => hk.2) (.int .i64 t450)) (fun _ hk => hk.2) (.slice Ao46 t451.length co46)) (fun _ hk => ⟨hk.1.1.1, ⟨hk.1.1.2.1, ⟨hk.1.1.2.2, hk.1.2⟩⟩⟩)⟩, ⟨by (with_reducible repeat (first | refine blk_drewN ?_ _ | refine blk_drew ?_ | refine blk_alloc ?_ _)); refine blk_far ?_ NB424_455.out _; (with_reducible repeat (first | refine blk_drewN ?_ _ | refine blk_drew ?_ | refine blk_alloc ?_ _)); refine blk_far ?_ NB424_455.out _; (with_reducible repeat (first | refine blk_drewN ?_ _ | refine blk_drew ?_ | refine blk_alloc ?_ _)); refine blk_far ?_ NB424_455.out _; (with_reducible repeat (first | refine blk_drewN ?_ _ | refine blk_drew ?_ | refine blk_alloc ?_ _)); exact BK424.out⟩, ⟨by (with_reducible repeat (first | refine blk_drewN ?_ _ | refine blk_drew ?_ | refine blk_alloc ?_ _)); refine blk_far ?_ NB437_455.out _; (with_reducible repeat (first | refine blk_drewN ?_ _ | refine blk_drew ?_ | refine blk_alloc ?_ _)); refine blk_far ?_ NB437_455.out _; (with_reducible repeat (first | refine blk_drewN ?_ _ | refine blk_drew ?_ | refine blk_alloc ?_ _)); refine blk_far ?_ NB437_455.out _; (with_reducible repeat (first | refine blk_drewN ?_ _ | refine blk_drew ?_ | refine blk_alloc ?_ _)); exact BK437.out⟩, ⟨by (with_reducible repeat (first | refine blk_drewN ?_ _ | refine blk_drew ?_ | refine blk_alloc ?_ _)); refine blk_far ?_ NB446_455.out _; (with_reducible repeat (first | refine blk_drewN ?_ _ | refine blk_drew ?_ | refine blk_alloc ?_ _)); refine blk_far ?_ NB446_455.out _; (with_reducible repeat (first | refine blk_drewN ?_ _ | refine blk_drew ?_ | refine blk_alloc ?_ _)); refine blk_far ?_ NB446_455.out _; (with_reducible repeat (first | refine blk_drewN ?_ _ | refine blk_drew ?_ | refine blk_alloc ?_ _)); exact BK446.out⟩, ⟨by (with_reducible repeat (first | refine blk_drewN ?_ _ | refine blk_drew ?_ | refine blk_alloc ?_ _)); refine blk_put (cs := #[.slice Ao41 t447.length co41, .int .i64 t450, .slice none 0 0]) ?_ 2 _ rfl; (with_reducible repeat (first | refine blk_drewN ?_ _ | refine blk_drew ?_ | refine blk_alloc ?_ _)); refine blk_put (cs := #[.slice Ao41 t447.length co41, .int .i64 0, .slice none 0 0]) ?_ 1 _ rfl; (with_reducible repeat (first | refine blk_drewN ?_ _ | refine blk_drew ?_ | refine blk_alloc ?_ _)); refine blk_put (cs := #[.slice none 0 0, .int .i64 0, .slice none 0 0]) ?_ 0 _ rfl; (with_reducible repeat (first | refine blk_drewN ?_ _ | refine blk_drew ?_ | refine blk_alloc ?_ _)); exact BK455.out⟩, ⟨bq4_ HB.out GE424.out GE437.out GE446.out GE455.out⟩⟩
      ·rw [if_neg c49] at H
       have c49b0 : (t454 == 0) = false := beq_eq_false_iff_ne.mpr c49
       have c49b1 : (t454 != 0) = true := bne_iff_ne.mpr c49
       have c49b2 : t456 = false := by simpa [c49b0] using c48b0
       by_cases c75 : t454 = 180
       ·rw [if_pos c75] at H
        obtain ⟨c75b0, c75b1⟩ := eqT_ c75
        clear c75
        replace H := Option.bind_eq_some_iff.mp H
        obtain ⟨t458, A760, H⟩ := H
        replace H : (fullerlaw18_StorePins.j1 kj3 t425 t435 t436 t445 t458 l0_0 a0_1 l0_2 t428 t431 t432 t438 t441 t442) = some r := H
        have A76 := Aside0.mk A760
        clear A760
        have H' := Aside0.mk H
        clear H
        have hnb77 := NB424_437.out
        have hnc77 := NB437_424.out
        have hnb78 := NB424_446.out
        have hnc78 := NB446_424.out
        have hnb79 := NB424_455.out
        have hnc79 := NB455_424.out
        have hcz80_0 := cz0_ BK424.out
        have hcz80_1 := cz1_ BK424.out
        have hcz80_2 := cz2_ BK424.out
        have hfz80_0 := blk_frozen BK424.out 0
        have hfz80_1 := blk_frozen BK424.out 1
        have hfz80_2 := blk_frozen BK424.out 2
        go_wp2_with (first | ((with_reducible refine gate_callee (f := 14) rfl ?_); refine gL_ (some 47) Try.func14 #[.slice A0_2 l0_2.length c0_2, .int .i64 a1] ?_; (with_reducible refine (fullerref10_In.calls kj3 _ _ l0_2 a1 t456 _ ?side1 ?side2 A47.out).mono ?_); (case side1 => exact Kd.C_below HR0_2.out (bq4_ HB.out GE424.out GE437.out GE446.out GE455.out)); (case side2 => exact HC0_2.out); rintro e w' ⟨rfl, ⟨nd, rfl⟩⟩; refine ⟨_, rfl, ?_⟩; have hnb81 := NB455_437.out; have hnc81 := NB437_455.out; have hnb82 := NB455_446.out; have hnc82 := NB446_455.out; have hcz83_0 := cz0_ BK455.out; have hcz83_1 := cz1_ BK455.out; have hcz83_2 := cz2_ BK455.out; have hfz83_0 := blk_frozen BK455.out 0; have hfz83_1 := blk_frozen BK455.out 1; have hfz83_2 := blk_frozen BK455.out 2) | (go_at_call 12; (with_reducible refine (fullerref18_Same.calls kj3 _ _ t447 t450 _ _ t451 _ _ l0_0 a0_1 _ _ l0_2 t458 _ ?side1 ?side2 ?side3 ?side4 ?side5 ?side6 ?side7 ?side8 A76.out).mono ?_); (case side1 => refine (Kd.V_reads' (e := 54) (base := w.heap.size) (ok := fun k_ => ((k_ ≠ gb424 ∧ (k_ ≠ gb437 ∧ k_ ≠ gb446)) ∧ k_ ≠ gb455)) (n := t447.length) (c := co41) ?_).2.2; exact (by (with_reducible repeat (first | apply Kd.V_alloc | apply Kd.V_drewN | apply Kd.V_drew)); exact (Kd.V_mono (Kd.V_far (p := ⟨gb455, 2, none⟩) (Kd.V_far (p := ⟨gb455, 1, none⟩) (Kd.V_far (p := ⟨gb455, 0, none⟩) (Kd.V_mono HO449.out (fun k_ hk => (⟨hk, hk.2⟩ : _ ∧ k_ ≠ gb455))) (fun _ hk => hk.2) (.slice Ao41 t447.length co41)) (fun _ hk => hk.2) (.int .i64 t450)) (fun _ hk => hk.2) (.slice Ao46 t451.length co46)) (fun _ h_ => h_.1)))); (case side2 => exact (Kd.V_reads' HO449.out).2.1); (case side3 => refine (Kd.V_reads' (e := 3) (base := w.heap.size) (ok := fun k_ => ((k_ ≠ gb424 ∧ (k_ ≠ gb437 ∧ k_ ≠ gb446)) ∧ k_ ≠ gb455)) (n := t451.length) (c := co46) ?_).2.2; exact (by (with_reducible repeat (first | apply Kd.V_alloc | apply Kd.V_drewN | apply Kd.V_drew)); exact (Kd.V_mono (Kd.V_far (p := ⟨gb455, 2, none⟩) (Kd.V_far (p := ⟨gb455, 1, none⟩) (Kd.V_far (p := ⟨gb455, 0, none⟩) (Kd.V_mono HO453.out (fun k_ hk => (⟨hk, hk.2⟩ : _ ∧ k_ ≠ gb455))) (fun _ hk => hk.2) (.slice Ao41 t447.length co41)) (fun _ hk => hk.2) (.int .i64 t450)) (fun _ hk => hk.2) (.slice Ao46 t451.length co46)) (fun _ h_ => h_.1)))); (case side4 => exact (Kd.V_reads' HO453.out).2.1); (case side5 => exact Kd.C_below HR0_0.out (bq4_ HB.out GE424.out GE437.out GE446.out GE455.out)); (case side6 => exact HC0_0.out); (case side7 => exact Kd.C_below HR0_2.out (bq4_ HB.out GE424.out GE437.out GE446.out GE455.out)); (case side8 => exact HC0_2.out); rintro e w84 ⟨rfl, hb⟩; replace HO430 := Aside0.mk (Kd.V_below (by (with_reducible repeat (first | apply Kd.V_alloc | apply Kd.V_drewN | apply Kd.V_drew)); exact (Kd.V_mono (Kd.V_far (p := ⟨gb455, 2, none⟩) (Kd.V_far (p := ⟨gb455, 1, none⟩) (Kd.V_far (p := ⟨gb455, 0, none⟩) (Kd.V_mono HO430.out (fun k_ hk => (⟨hk, hk.2⟩ : _ ∧ k_ ≠ gb455))) (fun _ hk => hk.2) (.slice Ao41 t447.length co41)) (fun _ hk => hk.2) (.int .i64 t450)) (fun _ hk => hk.2) (.slice Ao46 t451.length co46)) (fun _ h_ => h_.1))) hb); replace HO434 := Aside0.mk (Kd.V_below (by (with_reducible repeat (first | apply Kd.V_alloc | apply Kd.V_drewN | apply Kd.V_drew)); exact (Kd.V_mono (Kd.V_far (p := ⟨gb455, 2, none⟩) (Kd.V_far (p := ⟨gb455, 1, none⟩) (Kd.V_far (p := ⟨gb455, 0, none⟩) (Kd.V_mono HO434.out (fun k_ hk => (⟨hk, hk.2⟩ : _ ∧ k_ ≠ gb455))) (fun _ hk => hk.2) (.slice Ao41 t447.length co41)) (fun _ hk => hk.2) (.int .i64 t450)) (fun _ hk => hk.2) (.slice Ao46 t451.length co46)) (fun _ h_ => h_.1))) hb); replace HO440 := Aside0.mk (Kd.V_below (by (with_reducible repeat (first | apply Kd.V_alloc | apply Kd.V_drewN | apply Kd.V_drew)); exact (Kd.V_mono (Kd.V_far (p := ⟨gb455, 2, none⟩) (Kd.V_far (p := ⟨gb455, 1, none⟩) (Kd.V_far (p := ⟨gb455, 0, none⟩) (Kd.V_mono HO440.out (fun k_ hk => (⟨hk, hk.2⟩ : _ ∧ k_ ≠ gb455))) (fun _ hk => hk.2) (.slice Ao41 t447.length co41)) (fun _ hk => hk.2) (.int .i64 t450)) (fun _ hk => hk.2) (.slice Ao46 t451.length co46)) (fun _ h_ => h_.1))) hb); replace HO444 := Aside0.mk (Kd.V_below (by (with_reducible repeat (first | apply Kd.V_alloc | apply Kd.V_drewN | apply Kd.V_drew)); exact (Kd.V_mono (Kd.V_far (p := ⟨gb455, 2, none⟩) (Kd.V_far (p := ⟨gb455, 1, none⟩) (Kd.V_far (p := ⟨gb455, 0, none⟩) (Kd.V_mono HO444.out (fun k_ hk => (⟨hk, hk.2⟩ : _ ∧ k_ ≠ gb455))) (fun _ hk => hk.2) (.slice Ao41 t447.length co41)) (fun _ hk => hk.2) (.int .i64 t450)) (fun _ hk => hk.2) (.slice Ao46 t451.length co46)) (fun _ h_ => h_.1))) hb); replace HO449 := Aside0.mk (Kd.V_below (by (with_reducible repeat (first | apply Kd.V_alloc | apply Kd.V_drewN | apply Kd.V_drew)); exact (Kd.V_mono (Kd.V_far (p := ⟨gb455, 2, none⟩) (Kd.V_far (p := ⟨gb455, 1, none⟩) (Kd.V_far (p := ⟨gb455, 0, none⟩) (Kd.V_mono HO449.out (fun k_ hk => (⟨hk, hk.2⟩ : _ ∧ k_ ≠ gb455))) (fun _ hk => hk.2) (.slice Ao41 t447.length co41)) (fun _ hk => hk.2) (.int .i64 t450)) (fun _ hk => hk.2) (.slice Ao46 t451.length co46)) (fun _ h_ => h_.1))) hb); replace HO453 := Aside0.mk (Kd.V_below (by (with_reducible repeat (first | apply Kd.V_alloc | apply Kd.V_drewN | apply Kd.V_drew)); exact (Kd.V_mono (Kd.V_far (p := ⟨gb455, 2, none⟩) (Kd.V_far (p := ⟨gb455, 1, none⟩) (Kd.V_far (p := ⟨gb455, 0, none⟩) (Kd.V_mono HO453.out (fun k_ hk => (⟨hk, hk.2⟩ : _ ∧ k_ ≠ gb455))) (fun _ hk => hk.2) (.slice Ao41 t447.length co41)) (fun _ hk => hk.2) (.int .i64 t450)) (fun _ hk => hk.2) (.slice Ao46 t451.length co46)) (fun _ h_ => h_.1))) hb); replace BK424 := Aside0.mk (blk_below (g := gb424) (o := .cells #[.slice A0_0 l0_0.length c0_0, .int .i64 a0_1, .slice A0_2 l0_2.length c0_2] 25 (0, 0)) (by (with_reducible repeat (first | refine blk_drewN ?_ _ | refine blk_drew ?_ | refine blk_alloc ?_ _)); refine blk_far ?_ NB424_455.out _; (with_reducible repeat (first | refine blk_drewN ?_ _ | refine blk_drew ?_ | refine blk_alloc ?_ _)); refine blk_far ?_ NB424_455.out _; (with_reducible repeat (first | refine blk_drewN ?_ _ | refine blk_drew ?_ | refine blk_alloc ?_ _)); refine blk_far ?_ NB424_455.out _; (with_reducible repeat (first | refine blk_drewN ?_ _ | refine blk_drew ?_ | refine blk_alloc ?_ _)); exact BK424.out) hb); replace BK437 := Aside0.mk (blk_below (g := gb437) (o := .cells #[.slice Ao24 t428.length co24, .int .i64 t431, .slice Ao27 t432.length co27] 25 (0, 0)) (by (with_reducible repeat (first | refine blk_drewN ?_ _ | refine blk_drew ?_ | refine blk_alloc ?_ _)); refine blk_far ?_ NB437_455.out _; (with_reducible repeat (first | refine blk_drewN ?_ _ | refine blk_drew ?_ | refine blk_alloc ?_ _)); refine blk_far ?_ NB437_455.out _; (with_reducible repeat (first | refine blk_drewN ?_ _ | refine blk_drew ?_ | refine blk_alloc ?_ _)); refine blk_far ?_ NB437_455.out _; (with_reducible repeat (first | refine blk_drewN ?_ _ | refine blk_drew ?_ | refine blk_alloc ?_ _)); exact BK437.out) hb); replace BK446 := Aside0.mk (blk_below (g := gb446) (o := .cells #[.slice Ao32 t438.length co32, .int .i64 t441, .slice Ao36 t442.length co36] 25 (0, 0)) (by (with_reducible repeat (first | refine blk_drewN ?_ _ | refine blk_drew ?_ | refine blk_alloc ?_ _)); refine blk_far ?_ NB446_455.out _; (with_reducible repeat (first | refine blk_drewN ?_ _ | refine blk_drew ?_ | refine blk_alloc ?_ _)); refine blk_far ?_ NB446_455.out _; (with_reducible repeat (first | refine blk_drewN ?_ _ | refine blk_drew ?_ | refine blk_alloc ?_ _)); refine blk_far ?_ NB446_455.out _; (with_reducible repeat (first | refine blk_drewN ?_ _ | refine blk_drew ?_ | refine blk_alloc ?_ _)); exact BK446.out) hb); replace BK455 := Aside0.mk (blk_below (g := gb455) (o := .cells #[.slice Ao41 t447.length co41, .int .i64 t450, .slice Ao46 t451.length co46] 25 (0, 0)) (by (with_reducible repeat (first | refine blk_drewN ?_ _ | refine blk_drew ?_ | refine blk_alloc ?_ _)); refine blk_put (cs := #[.slice Ao41 t447.length co41, .int .i64 t450, .slice none 0 0]) ?_ 2 _ rfl; (with_reducible repeat (first | refine blk_drewN ?_ _ | refine blk_drew ?_ | refine blk_alloc ?_ _)); refine blk_put (cs := #[.slice Ao41 t447.length co41, .int .i64 0, .slice none 0 0]) ?_ 1 _ rfl; (with_reducible repeat (first | refine blk_drewN ?_ _ | refine blk_drew ?_ | refine blk_alloc ?_ _)); refine blk_put (cs := #[.slice none 0 0, .int .i64 0, .slice none 0 0]) ?_ 0 _ rfl; (with_reducible repeat (first | refine blk_drewN ?_ _ | refine blk_drew ?_ | refine blk_alloc ?_ _)); exact BK455.out) hb); replace HB := Aside0.mk (below_step (bq4_ HB.out GE424.out GE437.out GE446.out GE455.out) hb); (try clear hb)))
        go_meet
        case rel => exact ⟨_, (t458), (by first | rfl | (simp; done) | (simp [*]; done)), H', ⟨by have := HJ3.out; first | omega | exact Nat.le_refl _⟩, ⟨by (with_reducible repeat (first | apply Kd.V_alloc | apply Kd.V_drewN | apply Kd.V_drew)); exact Kd.V_mono HO430.out (fun _ hk => ⟨hk.1.1, ⟨hk.1.2.1, ⟨hk.1.2.2, hk.2⟩⟩⟩)⟩, ⟨by (with_reducible repeat (first | apply Kd.V_alloc | apply Kd.V_drewN | apply Kd.V_drew)); exact Kd.V_mono HO434.out (fun _ hk => ⟨hk.1.1, ⟨hk.1.2.1, ⟨hk.1.2.2, hk.2⟩⟩⟩)⟩, ⟨by (with_reducible repeat (first | apply Kd.V_alloc | apply Kd.V_drewN | apply Kd.V_drew)); exact Kd.V_mono HO440.out (fun _ hk => ⟨hk.1.1, ⟨hk.1.2.1, ⟨hk.1.2.2, hk.2⟩⟩⟩)⟩, ⟨by (with_reducible repeat (first | apply Kd.V_alloc | apply Kd.V_drewN | apply Kd.V_drew)); exact Kd.V_mono HO444.out (fun _ hk => ⟨hk.1.1, ⟨hk.1.2.1, ⟨hk.1.2.2, hk.2⟩⟩⟩)⟩, ⟨by (with_reducible repeat (first | apply Kd.V_alloc | apply Kd.V_drewN | apply Kd.V_drew)); exact Kd.V_mono HO449.out (fun _ hk => ⟨hk.1.1, ⟨hk.1.2.1, ⟨hk.1.2.2, hk.2⟩⟩⟩)⟩, ⟨by (with_reducible repeat (first | apply Kd.V_alloc | apply Kd.V_drewN | apply Kd.V_drew)); exact Kd.V_mono HO453.out (fun _ hk => ⟨hk.1.1, ⟨hk.1.2.1, ⟨hk.1.2.2, hk.2⟩⟩⟩)⟩, ⟨by (with_reducible repeat (first | refine blk_drewN ?_ _ | refine blk_drew ?_ | refine blk_alloc ?_ _)); exact BK424.out⟩, ⟨by (with_reducible repeat (first | refine blk_drewN ?_ _ | refine blk_drew ?_ | refine blk_alloc ?_ _)); exact BK437.out⟩, ⟨by (with_reducible repeat (first | refine blk_drewN ?_ _ | refine blk_drew ?_ | refine blk_alloc ?_ _)); exact BK446.out⟩, ⟨by (with_reducible repeat (first | refine blk_drewN ?_ _ | refine blk_drew ?_ | refine blk_alloc ?_ _)); exact BK455.out⟩, ⟨bq4_ HB.out GE424.out GE437.out GE446.out GE455.out⟩⟩
       ·rw [if_neg c75] at H
        have c75b0 : (t454 == 180) = false := beq_eq_false_iff_ne.mpr c75
        have c75b1 : (t454 != 180) = true := bne_iff_ne.mpr c75
        have H' := Aside0.mk H
        clear H
        have hnb85 := NB424_437.out
        have hnc85 := NB437_424.out
        have hnb86 := NB424_446.out
        have hnc86 := NB446_424.out
        have hnb87 := NB424_455.out
        have hnc87 := NB455_424.out
        have hcz88_0 := cz0_ BK424.out
        have hcz88_1 := cz1_ BK424.out
        have hcz88_2 := cz2_ BK424.out
        have hfz88_0 := blk_frozen BK424.out 0
        have hfz88_1 := blk_frozen BK424.out 1
        have hfz88_2 := blk_frozen BK424.out 2
        go_wp2_with (first | ((with_reducible refine gate_callee (f := 14) rfl ?_); refine gL_ (some 47) Try.func14 #[.slice A0_2 l0_2.length c0_2, .int .i64 a1] ?_; (with_reducible refine (fullerref10_In.calls kj3 _ _ l0_2 a1 t456 _ ?side1 ?side2 A47.out).mono ?_); (case side1 => exact Kd.C_below HR0_2.out (bq4_ HB.out GE424.out GE437.out GE446.out GE455.out)); (case side2 => exact HC0_2.out); rintro e w' ⟨rfl, ⟨nd, rfl⟩⟩; refine ⟨_, rfl, ?_⟩))
        go_meet
        case rel => exact ⟨_, (false), (by first | rfl | (simp; done) | (simp [*]; done)), H', ⟨by have := HJ3.out; first | omega | exact Nat.le_refl _⟩, ⟨by (with_reducible repeat (first | apply Kd.V_alloc | apply Kd.V_drewN | apply Kd.V_drew)); exact Kd.V_mono (Kd.V_far (p := ⟨gb455, 2, none⟩) (Kd.V_far (p := ⟨gb455, 1, none⟩) (Kd.V_far (p := ⟨gb455, 0, none⟩) (Kd.V_mono HO430.out (fun k_ hk => (⟨hk, hk.2⟩ : _ ∧ k_ ≠ gb455))) (fun _ hk => hk.2) (.slice Ao41 t447.length co41)) (fun _ hk => hk.2) (.int .i64 t450)) (fun _ hk => hk.2) (.slice Ao46 t451.length co46)) (fun _ hk => ⟨hk.1.1.1, ⟨hk.1.1.2.1, ⟨hk.1.1.2.2, hk.1.2⟩⟩⟩)⟩, ⟨by (with_reducible repeat (first | apply Kd.V_alloc | apply Kd.V_drewN | apply Kd.V_drew)); exact Kd.V_mono (Kd.V_far (p := ⟨gb455, 2, none⟩) (Kd.V_far (p := ⟨gb455, 1, none⟩) (Kd.V_far (p := ⟨gb455, 0, none⟩) (Kd.V_mono HO434.out (fun k_ hk => (⟨hk, hk.2⟩ : _ ∧ k_ ≠ gb455))) (fun _ hk => hk.2) (.slice Ao41 t447.length co41)) (fun _ hk => hk.2) (.int .i64 t450)) (fun _ hk => hk.2) (.slice Ao46 t451.length co46)) (fun _ hk => ⟨hk.1.1.1, ⟨hk.1.1.2.1, ⟨hk.1.1.2.2, hk.1.2⟩⟩⟩)⟩, ⟨by (with_reducible repeat (first | apply Kd.V_alloc | apply Kd.V_drewN | apply Kd.V_drew)); exact Kd.V_mono (Kd.V_far (p := ⟨gb455, 2, none⟩) (Kd.V_far (p := ⟨gb455, 1, none⟩) (Kd.V_far (p := ⟨gb455, 0, none⟩) (Kd.V_mono HO440.out (fun k_ hk => (⟨hk, hk.2⟩ : _ ∧ k_ ≠ gb455))) (fun _ hk => hk.2) (.slice Ao41 t447.length co41)) (fun _ hk => hk.2) (.int .i64 t450)) (fun _ hk => hk.2) (.slice Ao46 t451.length co46)) (fun _ hk => ⟨hk.1.1.1, ⟨hk.1.1.2.1, ⟨hk.1.1.2.2, hk.1.2⟩⟩⟩)⟩, ⟨by (with_reducible repeat (first | apply Kd.V_alloc | apply Kd.V_drewN | apply Kd.V_drew)); exact Kd.V_mono (Kd.V_far (p := ⟨gb455, 2, none⟩) (Kd.V_far (p := ⟨gb455, 1, none⟩) (Kd.V_far (p := ⟨gb455, 0, none⟩) (Kd.V_mono HO444.out (fun k_ hk => (⟨hk, hk.2⟩ : _ ∧ k_ ≠ gb455))) (fun _ hk => hk.2) (.slice Ao41 t447.length co41)) (fun _ hk => hk.2) (.int .i64 t450)) (fun _ hk => hk.2) (.slice Ao46 t451.length co46)) (fun _ hk => ⟨hk.1.1.1, ⟨hk.1.1.2.1, ⟨hk.1.1.2.2, hk.1.2⟩⟩⟩)⟩, ⟨by (with_reducible repeat (first | apply Kd.V_alloc | apply Kd.V_drewN | apply Kd.V_drew)); exact Kd.V_mono (Kd.V_far (p := ⟨gb455, 2, none⟩) (Kd.V_far (p := ⟨gb455, 1, none⟩) (Kd.V_far (p := ⟨gb455, 0, none⟩) (Kd.V_mono HO449.out (fun k_ hk => (⟨hk, hk.2⟩ : _ ∧ k_ ≠ gb455))) (fun _ hk => hk.2) (.slice Ao41 t447.length co41)) (fun _ hk => hk.2) (.int .i64 t450)) (fun _ hk => hk.2) (.slice Ao46 t451.length co46)) (fun _ hk => ⟨hk.1.1.1, ⟨hk.1.1.2.1, ⟨hk.1.1.2.2, hk.1.2⟩⟩⟩)⟩, ⟨by (with_reducible repeat (first | apply Kd.V_alloc | apply Kd.V_drewN | apply Kd.V_drew)); exact Kd.V_mono (Kd.V_far (p := ⟨gb455, 2, none⟩) (Kd.V_far (p := ⟨gb455, 1, none⟩) (Kd.V_far (p := ⟨gb455, 0, none⟩) (Kd.V_mono HO453.out (fun k_ hk => (⟨hk, hk.2⟩ : _ ∧ k_ ≠ gb455))) (fun _ hk => hk.2) (.slice Ao41 t447.length co41)) (fun _ hk => hk.2) (.int .i64 t450)) (fun _ hk => hk.2) (.slice Ao46 t451.length co46)) (fun _ hk => ⟨hk.1.1.1, ⟨hk.1.1.2.1, ⟨hk.1.1.2.2, hk.1.2⟩⟩⟩)⟩, ⟨by (with_reducible repeat (first | refine blk_drewN ?_ _ | refine blk_drew ?_ | refine blk_alloc ?_ _)); refine blk_far ?_ NB424_455.out _; (with_reducible repeat (first | refine blk_drewN ?_ _ | refine blk_drew ?_ | refine blk_alloc ?_ _)); refine blk_far ?_ NB424_455.out _; (with_reducible repeat (first | refine blk_drewN ?_ _ | refine blk_drew ?_ | refine blk_alloc ?_ _)); refine blk_far ?_ NB424_455.out _; (with_reducible repeat (first | refine blk_drewN ?_ _ | refine blk_drew ?_ | refine blk_alloc ?_ _)); exact BK424.out⟩, ⟨by (with_reducible repeat (first | refine blk_drewN ?_ _ | refine blk_drew ?_ | refine blk_alloc ?_ _)); refine blk_far ?_ NB437_455.out _; (with_reducible repeat (first | refine blk_drewN ?_ _ | refine blk_drew ?_ | refine blk_alloc ?_ _)); refine blk_far ?_ NB437_455.out _; (with_reducible repeat (first | refine blk_drewN ?_ _ | refine blk_drew ?_ | refine blk_alloc ?_ _)); refine blk_far ?_ NB437_455.out _; (with_reducible repeat (first | refine blk_drewN ?_ _ | refine blk_drew ?_ | refine blk_alloc ?_ _)); exact BK437.out⟩, ⟨by (with_reducible repeat (first | refine blk_drewN ?_ _ | refine blk_drew ?_ | refine blk_alloc ?_ _)); refine blk_far ?_ NB446_455.out _; (with_reducible repeat (first | refine blk_drewN ?_ _ | refine blk_drew ?_ | refine blk_alloc ?_ _)); refine blk_far ?_ NB446_455.out _; (with_reducible repeat (first | refine blk_drewN ?_ _ | refine blk_drew ?_ | refine blk_alloc ?_ _)); refine blk_far ?_ NB446_455.out _; (with_reducible repeat (first | refine blk_drewN ?_ _ | refine blk_drew ?_ | refine blk_alloc ?_ _)); exact BK446.out⟩, ⟨by (with_reducible repeat (first | refine blk_drewN ?_ _ | refine blk_drew ?_ | refine blk_alloc ?_ _)); refine blk_put (cs := #[.slice Ao41 t447.length co41, .int .i64 t450, .slice none 0 0]) ?_ 2 _ rfl; (with_reducible repeat (first | refine blk_drewN ?_ _ | refine blk_drew ?_ | refine blk_alloc ?_ _)); refine blk_put (cs := #[.slice Ao41 t447.length co41, .int .i64 0, .slice none 0 0]) ?_ 1 _ rfl; (with_reducible repeat (first | refine blk_drewN ?_ _ | refine blk_drew ?_ | refine blk_alloc ?_ _)); refine blk_put (cs := #[.slice none 0 0, .int .i64 0, .slice none 0 0]) ?_ 0 _ rfl; (with_reducible repeat (first | refine blk_drewN ?_ _ | refine blk_drew ?_ | refine blk_alloc ?_ _)); exact BK455.out⟩, ⟨bq4_ HB.out GE424.out GE437.out GE446.out GE455.out⟩⟩
     ·rw [if_neg c48] at H
      have c48b0 : ((t454 == 0) == t456) = false := by simpa using c48
      (try (have c48b1 : decide ((t454 == 0) = t456) = false := by simpa using c48))
      (try (have c48b2 : ((t454 == 0) == t456) = false := by simpa using c48))
      (try (have c48b3 : ¬ ((t454 == 0) = t456) := by simpa using c48))
      clear c48
      (first | rw [c48b0] | (simp only [i64_w, i32_w]; rw [c48b0]) | rw [c48b1] | skip)
      have H' := Aside0.mk H
      clear H
      have hnb89 := NB424_437.out
      have hnc89 := NB437_424.out
      have hnb90 := NB424_446.out
      have hnc90 := NB446_424.out
      have hnb91 := NB424_455.out
      have hnc91 := NB455_424.out
      have hcz92_0 := cz0_ BK424.out
      have hcz92_1 := cz1_ BK424.out
      have hcz92_2 := cz2_ BK424.out
      have hfz92_0 := blk_frozen BK424.out 0
      have hfz92_1 := blk_frozen BK424.out 1
      have hfz92_2 := blk_frozen BK424.out 2
      go_wp2_with (first | ((with_reducible refine gate_callee (f := 14) rfl ?_); refine gL_ (some 47) Try.func14 #[.slice A0_2 l0_2.length c0_2, .int .i64 a1] ?_; (with_reducible refine (fullerref10_In.calls kj3 _ _ l0_2 a1 t456 _ ?side1 ?side2 A47.out).mono ?_); (case side1 => exact Kd.C_below HR0_2.out (bq4_ HB.out GE424.out GE437.out GE446.out GE455.out)); (case side2 => exact HC0_2.out); rintro e w' ⟨rfl, ⟨nd, rfl⟩⟩; refine ⟨_, rfl, ?_⟩))
      go_meet
      case rel => exact ⟨_, (false), (by first | rfl | (simp; done) | (simp [*]; done)), H', ⟨by have := HJ3.out; first | omega | exact Nat.le_refl _⟩, ⟨by (with_reducible repeat (first | apply Kd.V_alloc | apply Kd.V_drewN | apply Kd.V_drew)); exact Kd.V_mono (Kd.V_far (p := ⟨gb455, 2, none⟩) (Kd.V_far (p := ⟨gb455, 1, none⟩) (Kd.V_far (p := ⟨gb455, 0, none⟩) (Kd.V_mono HO430.out (fun k_ hk => (⟨hk, hk.2⟩ : _ ∧ k_ ≠ gb455))) (fun _ hk => hk.2) (.slice Ao41 t447.length co41)) (fun _ hk => hk.2) (.int .i64 t450)) (fun _ hk => hk.2) (.slice Ao46 t451.length co46)) (fun _ hk => ⟨hk.1.1.1, ⟨hk.1.1.2.1, ⟨hk.1.1.2.2, hk.1.2⟩⟩⟩)⟩, ⟨by (with_reducible repeat (first | apply Kd.V_alloc | apply Kd.V_drewN | apply Kd.V_drew)); exact Kd.V_mono (Kd.V_far (p := ⟨gb455, 2, none⟩) (Kd.V_far (p := ⟨gb455, 1, none⟩) (Kd.V_far (p := ⟨gb455, 0, none⟩) (Kd.V_mono HO434.out (fun k_ hk => (⟨hk, hk.2⟩ : _ ∧ k_ ≠ gb455))) (fun _ hk => hk.2) (.slice Ao41 t447.length co41)) (fun _ hk => hk.2) (.int .i64 t450)) (fun _ hk => hk.2) (.slice Ao46 t451.length co46)) (fun _ hk => ⟨hk.1.1.1, ⟨hk.1.1.2.1, ⟨hk.1.1.2.2, hk.1.2⟩⟩⟩)⟩, ⟨by (with_reducible repeat (first | apply Kd.V_alloc | apply Kd.V_drewN | apply Kd.V_drew)); exact Kd.V_mono (Kd.V_far (p := ⟨gb455, 2, none⟩) (Kd.V_far (p := ⟨gb455, 1, none⟩) (Kd.V_far (p := ⟨gb455, 0, none⟩) (Kd.V_mono HO440.out (fun k_ hk => (⟨hk, hk.2⟩ : _ ∧ k_ ≠ gb455))) (fun _ hk => hk.2) (.slice Ao41 t447.length co41)) (fun _ hk => hk.2) (.int .i64 t450)) (fun _ hk => hk.2) (.slice Ao46 t451.length co46)) (fun _ hk => ⟨hk.1.1.1, ⟨hk.1.1.2.1, ⟨hk.1.1.2.2, hk.1.2⟩⟩⟩)⟩, ⟨by (with_reducible repeat (first | apply Kd.V_alloc | apply Kd.V_drewN | apply Kd.V_drew)); exact Kd.V_mono (Kd.V_far (p := ⟨gb455, 2, none⟩) (Kd.V_far (p := ⟨gb455, 1, none⟩) (Kd.V_far (p := ⟨gb455, 0, none⟩) (Kd.V_mono HO444.out (fun k_ hk => (⟨hk, hk.2⟩ : _ ∧ k_ ≠ gb455))) (fun _ hk => hk.2) (.slice Ao41 t447.length co41)) (fun _ hk => hk.2) (.int .i64 t450)) (fun _ hk => hk.2) (.slice Ao46 t451.length co46)) (fun _ hk => ⟨hk.1.1.1, ⟨hk.1.1.2.1, ⟨hk.1.1.2.2, hk.1.2⟩⟩⟩)⟩, ⟨by (with_reducible repeat (first | apply Kd.V_alloc | apply Kd.V_drewN | apply Kd.V_drew)); exact Kd.V_mono (Kd.V_far (p := ⟨gb455, 2, none⟩) (Kd.V_far (p := ⟨gb455, 1, none⟩) (Kd.V_far (p := ⟨gb455, 0, none⟩) (Kd.V_mono HO449.out (fun k_ hk => (⟨hk, hk.2⟩ : _ ∧ k_ ≠ gb455))) (fun _ hk => hk.2) (.slice Ao41 t447.length co41)) (fun _ hk => hk.2) (.int .i64 t450)) (fun _ hk => hk.2) (.slice Ao46 t451.length co46)) (fun _ hk => ⟨hk.1.1.1, ⟨hk.1.1.2.1, ⟨hk.1.1.2.2, hk.1.2⟩⟩⟩)⟩, ⟨by (with_reducible repeat (first | apply Kd.V_alloc | apply Kd.V_drewN | apply Kd.V_drew)); exact Kd.V_mono (Kd.V_far (p := ⟨gb455, 2, none⟩) (Kd.V_far (p := ⟨gb455, 1, none⟩) (Kd.V_far (p := ⟨gb455, 0, none⟩) (Kd.V_mono HO453.out (fun k_ hk => (⟨hk, hk.2⟩ : _ ∧ k_ ≠ gb455))) (fun _ hk => hk.2) (.slice Ao41 t447.length co41)) (fun _ hk => hk.2) (.int .i64 t450)) (fun _ hk => hk.2) (.slice Ao46 t451.length co46)) (fun _ hk => ⟨hk.1.1.1, ⟨hk.1.1.2.1, ⟨hk.1.1.2.2, hk.1.2⟩⟩⟩)⟩, ⟨by (with_reducible repeat (first | refine blk_drewN ?_ _ | refine blk_drew ?_ | refine blk_alloc ?_ _)); refine blk_far ?_ NB424_455.out _; (with_reducible repeat (first | refine blk_drewN ?_ _ | refine blk_drew ?_ | refine blk_alloc ?_ _)); refine blk_far ?_ NB424_455.out _; (with_reducible repeat (first | refine blk_drewN ?_ _ | refine blk_drew ?_ | refine blk_alloc ?_ _)); refine blk_far ?_ NB424_455.out _; (with_reducible repeat (first | refine blk_drewN ?_ _ | refine blk_drew ?_ | refine blk_alloc ?_ _)); exact BK424.out⟩, ⟨by (with_reducible repeat (first | refine blk_drewN ?_ _ | refine blk_drew ?_ | refine blk_alloc ?_ _)); refine blk_far ?_ NB437_455.out _; (with_reducible repeat (first | refine blk_drewN ?_ _ | refine blk_drew ?_ | refine blk_alloc ?_ _)); refine blk_far ?_ NB437_455.out _; (with_reducible repeat (first | refine blk_drewN ?_ _ | refine blk_drew ?_ | refine blk_alloc ?_ _)); refine blk_far ?_ NB437_455.out _; (with_reducible repeat (first | refine blk_drewN ?_ _ | refine blk_drew ?_ | refine blk_alloc ?_ _)); exact BK437.out⟩, ⟨by (with_reducible repeat (first | refine blk_drewN ?_ _ | refine blk_drew ?_ | refine blk_alloc ?_ _)); refine blk_far ?_ NB446_455.out _; (with_reducible repeat (first | refine blk_drewN ?_ _ | refine blk_drew ?_ | refine blk_alloc ?_ _)); refine blk_far ?_ NB446_455.out _; (with_reducible repeat (first | refine blk_drewN ?_ _ | refine blk_drew ?_ | refine blk_alloc ?_ _)); refine blk_far ?_ NB446_455.out _; (with_reducible repeat (first | refine blk_drewN ?_ _ | refine blk_drew ?_ | refine blk_alloc ?_ _)); exact BK446.out⟩, ⟨by (with_reducible repeat (first | refine blk_drewN ?_ _ | refine blk_drew ?_ | refine blk_alloc ?_ _)); refine blk_put (cs := #[.slice Ao41 t447.length co41, .int .i64 t450, .slice none 0 0]) ?_ 2 _ rfl; (with_reducible repeat (first | refine blk_drewN ?_ _ | refine blk_drew ?_ | refine blk_alloc ?_ _)); refine blk_put (cs := #[.slice Ao41 t447.length co41, .int .i64 0, .slice none 0 0]) ?_ 1 _ rfl; (with_reducible repeat (first | refine blk_drewN ?_ _ | refine blk_drew ?_ | refine blk_alloc ?_ _)); refine blk_put (cs := #[.slice none 0 0, .int .i64 0, .slice none 0 0]) ?_ 0 _ rfl; (with_reducible repeat (first | refine blk_drewN ?_ _ | refine blk_drew ?_ | refine blk_alloc ?_ _)); exact BK455.out⟩, ⟨bq4_ HB.out GE424.out GE437.out GE446.out GE455.out⟩⟩
    case rest =>
     clear HC20
     try clear c1
     try clear c2
     try clear p2
     try clear c3
     try clear c4
     try clear c5
     try clear c6
     try clear p6
     try clear c7
     try clear c8
     try clear c9
     try clear c14
     try clear c16
     try clear c17
     try clear c25
     try clear c33
     try clear c34
     try clear c42
     try clear c43
     try clear c44
     try clear c48
     try clear c48b0
     try clear c48b1
     try clear c48b2
     try clear c49
     try clear c49b0
     try clear c49b1
     try clear c50
     try clear c50b0
     try clear c50b1
     try clear c51
     try clear c52
     try clear c53
     try clear c55
     try clear c56
     try clear c58
     try clear c58b0
     try clear c58b1
     try clear c60
     try clear c61
     try clear c62
     try clear c64
     try clear p64
     try clear c65
     try clear c68
     try clear c69
     try clear c70
     try clear c72
     try clear c73
     try clear c75
     try clear c75b0
     try clear c75b1
     try clear c77
     try clear c78
     try clear c79
     try clear c81
     try clear c82
     try clear c85
     try clear c86
     try clear c87
     try clear c89
     try clear c90
     try clear c91
     try clear hcz10_0
     try clear hcz10_1
     try clear hcz10_2
     try clear hcz12_0
     try clear hcz12_1
     try clear hcz12_2
     try clear hcz14_0
     try clear hcz14_1
     try clear hcz14_2
     try clear hcz21_0
     try clear hcz21_1
     try clear hcz21_2
     try clear hcz26_0
     try clear hcz26_1
     try clear hcz26_2
     try clear hcz29_0
     try clear hcz29_1
     try clear hcz29_2
     try clear hcz35_0
     try clear hcz35_1
     try clear hcz35_2
     try clear hcz38_0
     try clear hcz38_1
     try clear hcz38_2
     try clear hcz45_0
     try clear hcz45_1
     try clear hcz45_2
     try clear hcz54_0
     try clear hcz54_1
     try clear hcz54_2
     try clear hcz57_0
     try clear hcz57_1
     try clear hcz57_2
     try clear hcz63_0
     try clear hcz63_1
     try clear hcz63_2
     try clear hcz66_0
     try clear hcz66_1
     try clear hcz66_2
     try clear hcz71_0
     try clear hcz71_1
     try clear hcz71_2
     try clear hcz74_0
     try clear hcz74_1
     try clear hcz74_2
     try clear hcz80_0
     try clear hcz80_1
     try clear hcz80_2
     try clear hcz83_0
     try clear hcz83_1
     try clear hcz83_2
     try clear hcz88_0
     try clear hcz88_1
     try clear hcz88_2
     try clear hcz92_0
     try clear hcz92_1
     try clear hcz92_2
     try clear hfz10_0
     try clear hfz10_1
     try clear hfz10_2
     try clear hfz12_0
     try clear hfz12_1
     try clear hfz12_2
     try clear hfz14_0
     try clear hfz14_1
     try clear hfz14_2
     try clear hfz21_0
     try clear hfz21_1
     try clear hfz21_2
     try clear hfz26_0
     try clear hfz26_1
     try clear hfz26_2
     try clear hfz29_0
     try clear hfz29_1
     try clear hfz29_2
     try clear hfz35_0
     try clear hfz35_1
     try clear hfz35_2
     try clear hfz38_0
     try clear hfz38_1
     try clear hfz38_2
     try clear hfz45_0
     try clear hfz45_1
     try clear hfz45_2
     try clear hfz54_0
     try clear hfz54_1
     try clear hfz54_2
     try clear hfz57_0
     try clear hfz57_1
     try clear hfz57_2
     try clear hfz63_0
     try clear hfz63_1
     try clear hfz63_2
     try clear hfz66_0
     try clear hfz66_1
     try clear hfz66_2
     try clear hfz71_0
     try clear hfz71_1
     try clear hfz71_2
     try clear hfz74_0
     try clear hfz74_1
     try clear hfz74_2
     try clear hfz80_0
     try clear hfz80_1
     try clear hfz80_2
     try clear hfz83_0
     try clear hfz83_1
     try clear hfz83_2
     try clear hfz88_0
     try clear hfz88_1
     try clear hfz88_2
     try clear hfz92_0
     try clear hfz92_1
     try clear hfz92_2
     try clear p2
     obtain ⟨kq, x13_19, rfl, HA, HJ19, HO_438000, HO_438002, HO_447000, HO_447002, HO_456000, HO_456002, BK424, BK437, BK446, BK455, HB⟩ := hcut
     cases kq with
     | zero => exact absurd HA.out (by simp [fullerlaw18_StorePins.j1])
     | succ kj19 =>
      have H := HA.out
      clear HA
      simp only [fullerlaw18_StorePins.j1] at H
      by_cases c93 : t436 = 0
      ·rw [if_pos c93] at H
       obtain ⟨c93b0, c93b1⟩ := eqT_ c93
       clear c93
       by_cases c94 : t425 = true
       ·subst c94
        have H1 : (if x13_19 = true then (if t445 = 0 then (if t435 = a0_1 then (if (t432.length : Int) = (wrap64 ((l0_2.length : Int) + 1)) then ((fullerref18_Same.f kj19 t438 t441 t442 l0_0 a0_1 l0_2).bind fun t459 => (some t459)) else (some false)) else (some false)) else (some false)) else (some false)) = some r := by rw [if_pos rfl] at H; exact H
        clear H
        have H := H1
        clear H1
        by_cases c95 : x13_19 = true
        ·subst c95
         have H1 : (if t445 = 0 then (if t435 = a0_1 then (if (t432.length : Int) = (wrap64 ((l0_2.length : Int) + 1)) then ((fullerref18_Same.f kj19 t438 t441 t442 l0_0 a0_1 l0_2).bind fun t459 => (some t459)) else (some false)) else (some false)) else (some false)) = some r := by rw [if_pos rfl] at H; exact H
         clear H
         have H := H1
         clear H1
         by_cases c96 : t445 = 0
         ·rw [if_pos c96] at H
          obtain ⟨c96b0, c96b1⟩ := eqT_ c96
          clear c96
          by_cases c97 : t435 = a0_1
          ·rw [if_pos c97] at H
           obtain ⟨c97b0, c97b1⟩ := eqT_ c97
           clear c97
           by_cases c98 : (t432.length : Int) = (wrap64 ((l0_2.length : Int) + 1))
           ·rw [if_pos c98] at H
            obtain ⟨c98b0, c98b1⟩ := eqT_ c98
            clear c98
            replace H := Option.bind_eq_some_iff.mp H
            obtain ⟨t459, A990, H⟩ := H
            replace H : (some t459) = some r := H
            have A99 := Aside0.mk A990
            clear A990
            obtain rfl := Option.some.inj H
            have hnb100 := NB424_437.out
            have hnc100 := NB437_424.out
            have hnb101 := NB424_446.out
            have hnc101 := NB446_424.out
            have hnb102 := NB424_455.out
            have hnc102 := NB455_424.out
            have hcz103_0 := cz0_ BK424.out
            have hcz103_1 := cz1_ BK424.out
            have hcz103_2 := cz2_ BK424.out
            have hfz103_0 := blk_frozen BK424.out 0
            have hfz103_1 := blk_frozen BK424.out 1
            have hfz103_2 := blk_frozen BK424.out 2
            have hnb104 := NB437_446.out
            have hnc104 := NB446_437.out
            have hnb105 := NB437_455.out
            have hnc105 := NB455_437.out
            have hcz106_0 := cz0_ BK437.out
            have hcz106_1 := cz1_ BK437.out
            have hcz106_2 := cz2_ BK437.out
            have hfz106_0 := blk_frozen BK437.out 0
            have hfz106_1 := blk_frozen BK437.out 1
            have hfz106_2 := blk_frozen BK437.out 2
            have hnb107 := NB446_455.out
            have hnc107 := NB455_446.out
            have hcz108_0 := cz0_ BK446.out
            have hcz108_1 := cz1_ BK446.out
            have hcz108_2 := cz2_ BK446.out
            have hfz108_0 := blk_frozen BK446.out 0
            have hfz108_1 := blk_frozen BK446.out 1
            have hfz108_2 := blk_frozen BK446.out 2
            go_wp2_with (first | (go_at_call 12; (with_reducible refine (fullerref18_Same.calls kj19 _ _ t438 t441 _ _ t442 _ _ l0_0 a0_1 _ _ l0_2 t459 _ ?side1 ?side2 ?side3 ?side4 ?side5 ?side6 ?side7 ?side8 A99.out).mono ?_); (case side1 => exact mvC_ ((Kd.V_reads' HO_447000.out).2.2)); (case side2 => exact (Kd.V_reads' HO_447000.out).2.1); (case side3 => exact mvC_ ((Kd.V_reads' HO_447002.out).2.2)); (case side4 => exact (Kd.V_reads' HO_447002.out).2.1); (case side5 => exact mvC_ ((Kd.C_below HR0_0.out HB.out))); (case side6 => exact HC0_0.out); (case side7 => exact mvC_ ((Kd.C_below HR0_2.out HB.out))); (case side8 => exact HC0_2.out); rintro e w109 ⟨rfl, hb⟩; replace HO_438002 := mbV_ HO_438002.out hb; replace HO_447000 := mbV_ HO_447000.out hb; replace HO_447002 := mbV_ HO_447002.out hb; replace BK424 := mvB_ BK424.out hb; replace BK437 := mvB_ BK437.out hb; replace BK446 := mvB_ BK446.out hb; replace BK455 := mvB_ BK455.out hb; replace HB := Aside0.mk (below_step (bq4_ HB.out GE424.out GE437.out GE446.out GE455.out) hb); (try clear hb)))
            go_ret
            exact ⟨by first | rfl | (simp <;> rfl) | (simp [*] <;> rfl), bq4_ HB.out GE424.out GE437.out GE446.out GE455.out⟩
           ·rw [if_neg c98] at H
            have c98b0 : ((t432.length : Int) == (wrap64 ((l0_2.length : Int) + 1))) = false := beq_eq_false_iff_ne.mpr c98
            have c98b1 : ((t432.length : Int) != (wrap64 ((l0_2.length : Int) + 1))) = true := bne_iff_ne.mpr c98
            obtain rfl := Option.some.inj H
            have hnb110 := NB424_437.out
            have hnc110 := NB437_424.out
            have hnb111 := NB424_446.out
            have hnc111 := NB446_424.out
            have hnb112 := NB424_455.out
            have hnc112 := NB455_424.out
            have hcz113_0 := cz0_ BK424.out
            have hcz113_1 := cz1_ BK424.out
            have hcz113_2 := cz2_ BK424.out
            have hfz113_0 := blk_frozen BK424.out 0
            have hfz113_1 := blk_frozen BK424.out 1
            have hfz113_2 := blk_frozen BK424.out 2
            have hnb114 := NB437_446.out
            have hnc114 := NB446_437.out
            have hnb115 := NB437_455.out
            have hnc115 := NB455_437.out
            have hcz116_0 := cz0_ BK437.out
            have hcz116_1 := cz1_ BK437.out
            have hcz116_2 := cz2_ BK437.out
            have hfz116_0 := blk_frozen BK437.out 0
            have hfz116_1 := blk_frozen BK437.out 1
            have hfz116_2 := blk_frozen BK437.out 2
            go_wp2
            go_ret
            exact ⟨by first | rfl | (simp <;> rfl) | (simp [*] <;> rfl), bq4_ HB.out GE424.out GE437.out GE446.out GE455.out⟩
          ·rw [if_neg c97] at H
           have c97b0 : (t435 == a0_1) = false := beq_eq_false_iff_ne.mpr c97
           have c97b1 : (t435 != a0_1) = true := bne_iff_ne.mpr c97
           obtain rfl := Option.some.inj H
           have hnb117 := NB424_437.out
           have hnc117 := NB437_424.out
           have hnb118 := NB424_446.out
           have hnc118 := NB446_424.out
           have hnb119 := NB424_455.out
           have hnc119 := NB455_424.out
           have hcz120_0 := cz0_ BK424.out
           have hcz120_1 := cz1_ BK424.out
           have hcz120_2 := cz2_ BK424.out
           have hfz120_0 := blk_frozen BK424.out 0
           have hfz120_1 := blk_frozen BK424.out 1
           have hfz120_2 := blk_frozen BK424.out 2
           go_wp2
           go_ret
           exact ⟨by first | rfl | (simp <;> rfl) | (simp [*] <;> rfl), bq4_ HB.out GE424.out GE437.out GE446.out GE455.out⟩
         ·rw [if_neg c96] at H
          have c96b0 : (t445 == 0) = false := beq_eq_false_iff_ne.mpr c96
          have c96b1 : (t445 != 0) = true := bne_iff_ne.mpr c96
          obtain rfl := Option.some.inj H
          go_wp2
          go_ret
          exact ⟨by first | rfl | (simp <;> rfl) | (simp [*] <;> rfl), bq4_ HB.out GE424.out GE437.out GE446.out GE455.out⟩
        ·replace c95 := Bool.eq_false_iff.mpr c95
         subst c95
         have H1 : (some false) = some r := by rw [if_neg (show ¬ (false = true) by decide)] at H; exact H
         clear H
         have H := H1
         clear H1
         obtain rfl := Option.some.inj H
         go_wp2
         go_ret
         exact ⟨by first | rfl | (simp <;> rfl) | (simp [*] <;> rfl), bq4_ HB.out GE424.out GE437.out GE446.out GE455.out⟩
       ·replace c94 := Bool.eq_false_iff.mpr c94
        subst c94
        have H1 : (some false) = some r := by rw [if_neg (show ¬ (false = true) by decide)] at H; exact H
        clear H
        have H := H1
        clear H1
        obtain rfl := Option.some.inj H
        go_wp2
        go_ret
        exact ⟨by first | rfl | (simp <;> rfl) | (simp [*] <;> rfl), bq4_ HB.out GE424.out GE437.out GE446.out GE455.out⟩
      ·rw [if_neg c93] at H
       have c93b0 : (t436 == 0) = false := beq_eq_false_iff_ne.mpr c93
       have c93b1 : (t436 != 0) = true := bne_iff_ne.mpr c93
       by_cases c121 : t425 = true
       ·subst c121
        have H1 : (if x13_19 = true then (if t436 = 171 then (some ((l0_2.length : Int) == 64)) else (some false)) else (some false)) = some r := by rw [if_pos rfl] at H; exact H
        clear H
        have H := H1
        clear H1
        by_cases c122 : x13_19 = true
        ·subst c122
         have H1 : (if t436 = 171 then (some ((l0_2.length : Int) == 64)) else (some false)) = some r := by rw [if_pos rfl] at H; exact H
         clear H
         have H := H1
         clear H1
         by_cases c123 : t436 = 171
         ·rw [if_pos c123] at H
          obtain ⟨c123b0, c123b1⟩ := eqT_ c123
          clear c123
          obtain rfl := Option.some.inj H
          have hnb124 := NB424_437.out
          have hnc124 := NB437_424.out
          have hnb125 := NB424_446.out
          have hnc125 := NB446_424.out
          have hnb126 := NB424_455.out
          have hnc126 := NB455_424.out
          have hcz127_0 := cz0_ BK424.out
          have hcz127_1 := cz1_ BK424.out
          have hcz127_2 := cz2_ BK424.out
          have hfz127_0 := blk_frozen BK424.out 0
          have hfz127_1 := blk_frozen BK424.out 1
          have hfz127_2 := blk_frozen BK424.out 2
          go_wp2
          go_ret
          exact ⟨by first | rfl | (simp <;> rfl) | (simp [*] <;> rfl), bq4_ HB.out GE424.out GE437.out GE446.out GE455.out⟩
         ·rw [if_neg c123] at H
          have c123b0 : (t436 == 171) = false := beq_eq_false_iff_ne.mpr c123
          have c123b1 : (t436 != 171) = true := bne_iff_ne.mpr c123
          obtain rfl := Option.some.inj H
          go_wp2
          go_ret
          exact ⟨by first | rfl | (simp <;> rfl) | (simp [*] <;> rfl), bq4_ HB.out GE424.out GE437.out GE446.out GE455.out⟩
        ·replace c122 := Bool.eq_false_iff.mpr c122
         subst c122
         have H1 : (some false) = some r := by rw [if_neg (show ¬ (false = true) by decide)] at H; exact H
         clear H
         have H := H1
         clear H1
         obtain rfl := Option.some.inj H
         go_wp2
         go_ret
         exact ⟨by first | rfl | (simp <;> rfl) | (simp [*] <;> rfl), bq4_ HB.out GE424.out GE437.out GE446.out GE455.out⟩
       ·replace c121 := Bool.eq_false_iff.mpr c121
        subst c121
        have H1 : (some false) = some r := by rw [if_neg (show ¬ (false = true) by decide)] at H; exact H
        clear H
        have H := H1
        clear H1
        obtain rfl := Option.some.inj H
        go_wp2
        go_ret
        exact ⟨by first | rfl | (simp <;> rfl) | (simp [*] <;> rfl), bq4_ HB.out GE424.out GE437.out GE446.out GE455.out⟩
def fullerlaw18_StorePins.Pure : Prop := ∀ (l0_0 : List (List (S74))) (a0_1 : Int) (l0_2 : List Int) (a1 : Int), (l0_0.length * 24 ≤ 140737488351232 ∧ ∀ x_ ∈ l0_0, x_.length * 56 ≤ 140737488351232 ∧ ∀ y_ ∈ x_, OK74 y_) → ((Lit.int .i64 a0_1).wf = true) → (l0_2.length * 8 ≤ 140737488351232 ∧ ∀ x_ ∈ l0_2, (Lit.int .i64 x_).wf = true) → ((Lit.int .i64 a1).wf = true) → ∃ k, fullerlaw18_StorePins.f k l0_0 a0_1 l0_2 a1 = some true
theorem fullerlaw18_StorePins.walk (P : fullerlaw18_StorePins.Pure) (A0_0 : Option Addr) (c0_0 : Nat) (l0_0 : List (List (S74))) (a0_1 : Int) (A0_2 : Option Addr) (c0_2 : Nat) (l0_2 : List Int) (a1 : Int) (w : World) (hr0_0 : Kd.C (Kd.slice 74 k74) w A0_0 l0_0.length l0_0) (hc0_0 : l0_0.length ≤ c0_0) (hr0_2 : Kd.C (Kd.int .i64) w A0_2 l0_2.length l0_2) (hc0_2 : l0_2.length ≤ c0_2) (hg0_0 : l0_0.length * 24 ≤ 140737488351232 ∧ ∀ x_ ∈ l0_0, x_.length * 56 ≤ 140737488351232 ∧ ∀ y_ ∈ x_, OK74 y_) (hg0_1 : (Lit.int .i64 a0_1).wf = true) (hg0_2 : l0_2.length * 8 ≤ 140737488351232 ∧ ∀ x_ ∈ l0_2, (Lit.int .i64 x_).wf = true) (hg1 : (Lit.int .i64 a1).wf = true) :
  Calls Try.prog 4 #[.agg #[.slice A0_0 l0_0.length c0_0, .int .i64 a0_1, .slice A0_2 l0_2.length c0_2], .int .i64 a1] w fun e w' => e = .returned (.bool true) ∧ Below w.heap.size w w' := by
 obtain ⟨k, h⟩ := P l0_0 a0_1 l0_2 a1 hg0_0 hg0_1 hg0_2 hg1
 refine (fullerlaw18_StorePins.calls k _ _ l0_0 a0_1 _ _ l0_2 a1 true w hr0_0 hc0_0 hr0_2 hc0_2 h).mono ?_
 rintro e w' ⟨rfl, hd⟩
 exact ⟨rfl, hd⟩
end Go.Proofs.Ytmolbbebglfhmaa.A
