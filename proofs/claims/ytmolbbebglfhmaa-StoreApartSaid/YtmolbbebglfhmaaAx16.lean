/- Lean functions that answer as the Go functions do, and the proofs that they do; no conditions. Written by this session's own driver: a scratch copy of the kit's print with the session's additions (wip/xprint). -/
import Derived.Test.YtmolbbebglfhmaaAx0
import Derived.Test.YtmolbbebglfhmaaAx11
namespace Go.Proofs.Ytmolbbebglfhmaa.A
open Go.RowKit Go.Proofs.YtmolbbebglfhmaaW.PrintWords Go.Proofs.YtmolbbebglfhmaaW.PrintLast Go.Proofs.YtmolbbebglfhmaaW.PrintMore
attribute [local go_sem] max2_int min2_int max_two min_two max_three min_three max_four min_four
set_option linter.unusedVariables false
set_option linter.unusedSimpArgs false
def L18_0 : Array Bool := #[false, false, false, false, false, false, false, false, false, false]
def L18_1 : Array Bool := #[true, false, false, false, false, false, false, false, false, false]
def L18_2 : Array Bool := #[true, true, false, false, false, false, false, false, false, false]
def L18_3 : Array Bool := #[true, true, true, false, false, false, false, false, false, false]
def L18_4 : Array Bool := #[true, true, true, false, true, false, false, false, false, false]
def L18_5 : Array Bool := #[true, true, true, false, true, true, false, false, false, false]
def L18_6 : Array Bool := #[true, true, true, false, true, true, true, false, false, false]
def L18_7 : Array Bool := #[true, true, true, true, true, true, true, false, false, false]
def L18_8 : Array Bool := #[true, true, true, true, true, true, true, true, false, false]
def L18_9 : Array Bool := #[true, true, true, true, true, true, true, true, true, false]
def L18_10 : Array Bool := #[true, true, true, true, true, true, true, true, true, true]
def fullerref09_Same.l0 : Nat → List (S37) → List (S37) → Int → Option (Bool)
 | 0, _, _, _ => none
 | k + 1, x0, x1, x5 => if x5 < (x0.length : Int) then (if 0 ≤ x5 then (if x5 < (x1.length : Int) then ((fullerref03_Same.f k ((rd_T37 x0 x5).f0) ((rd_T37 x0 x5).f1) ((rd_T37 x1 x5).f0) ((rd_T37 x1 x5).f1)).bind fun t462 => (if t462 = true then (fullerref09_Same.l0 k x0 x1 (wrap64 (x5 + 1))) else (some false))) else (none)) else (none)) else (some true)
def fullerref09_Same.f (k : Nat) (l0 : List (S37)) (l1 : List (S37)) : Option (Bool) := if (l0.length : Int) = (l1.length : Int) then (fullerref09_Same.l0 k l0 l1 0) else (some false)
def fullerref09_Same.T6 : Bool × List (List Nat × List Nat) := (true, [([], []), ([], []), ([0, 1], [0, 1]), ([2], [2]), ([], []), ([], []), ([4, 5], [4, 5]), ([6], [6]), ([3, 7], [3, 7]), ([8, 8, 0, 1, 2, 3, 4, 5, 6, 7, 8], [8])])
def fullerref09_Same.B6 : List Nat := [0, 0, 3, 7, 0, 0, 48, 112, 255, 511]
theorem fullerref09_Same.tab6 : rtab .any (opsOf Try.f18 6) = fullerref09_Same.T6 := by kernel_rfl
theorem fullerref09_Same.bits6 : waitsOk fullerref09_Same.T6.2 fullerref09_Same.B6 = true := by kernel_rfl
set_option maxHeartbeats 8000000 in
set_option maxRecDepth 100000 in
theorem fullerref09_Same.calls (k : Nat) (A0 : Option Addr) (c0 : Nat) (l0 : List (S37)) (A1 : Option Addr) (c1 : Nat) (l1 : List (S37)) (r : Bool) (w : World) (hr0 : Kd.C k37 w A0 l0.length l0) (hc0 : l0.length ≤ c0) (hr1 : Kd.C k37 w A1 l1.length l1) (hc1 : l1.length ≤ c1) (h : fullerref09_Same.f k l0 l1 = some r) :
  Calls Try.prog 18 #[.slice A0 l0.length c0, .slice A1 l1.length c1] w fun e w' => e = .returned (.bool r) ∧ Below w.heap.size w w' := by
 have hu37 := Try.underlying37
 have HR0 := Aside0.mk hr0
 have HC0 := Aside0.mk hc0
 clear hr0 hc0
 have HR1 := Aside0.mk hr1
 have HC1 := Aside0.mk hc1
 clear hr1 hc1
 have HB := Aside0.mk (Below.refl w.heap.size w)
 have H : (if (l0.length : Int) = (l1.length : Int) then (fullerref09_Same.l0 k l0 l1 0) else (some false)) = some r := h
 clear h
 by_cases c3 : (l0.length : Int) = (l1.length : Int)
 ·rw [if_pos c3] at H
  have c3b0 : ((l0.length : Int) == (l1.length : Int)) = true := beq_iff_eq.mpr c3
  have c3b1 : ((l0.length : Int) != (l1.length : Int)) = false := bne_eq_false_iff_eq.mpr c3
  have c3b2 : (l0.length == l1.length) = true := by first | simpa using c3 | (simp at c3 ⊢; omega)
  clear c3
  have H' := Aside0.mk H
  clear H
  go_enter Try.func18, Try.ntmps18
  go_wp2
  go_loopg [5] k (fun kq v5 w' => ∃ (x5_1 : Int), v5 = .int .i64 x5_1 ∧ Aside0 (fullerref09_Same.l0 kq l0 l1 x5_1 = some r) ∧ Aside0 (kq ≤ k) ∧ Aside0 (Below w.heap.size w w'))
  case atStart => exact ⟨(0), (by first | rfl | (simp; done) | (simp [*]; done)), H', ⟨Nat.le_refl _⟩, ⟨bq0_ HB.out⟩⟩
  case round =>
   clear H'
   try clear c1
   try clear p2
   try clear c3
   try clear c3b0
   try clear c3b1
   try clear c3b2
   obtain ⟨x5_1, rfl, HA, HK1, HB⟩ := hrel
   cases gk with
   | zero => exact absurd HA.out (by simp [fullerref09_Same.l0])
   | succ k1 =>
    have H := HA.out
    clear HA
    simp only [fullerref09_Same.l0] at H
    by_cases c4 : x5_1 < (l0.length : Int)
    ·rw [if_pos c4] at H
     have c4b0 : decide (x5_1 < (l0.length : Int)) = true := decide_eq_true c4
     clear c4
     by_cases c5 : 0 ≤ x5_1
     ·rw [if_pos c5] at H
      have c5b0 : decide (0 ≤ x5_1) = true := decide_eq_true c5
      clear c5
      by_cases c6 : x5_1 < (l1.length : Int)
      ·rw [if_pos c6] at H
       have c6b0 : decide (x5_1 < (l1.length : Int)) = true := decide_eq_true c6
       clear c6
       replace H := Option.bind_eq_some_iff.mp H
       obtain ⟨t462, A70, H⟩ := H
       replace H : (if t462 = true then (fullerref09_Same.l0 k1 l0 l1 (wrap64 (x5_1 + 1))) else (some false)) = some r := H
       have A7 := Aside0.mk A70
       clear A70
       by_cases c8 : t462 = true
       ·subst c8
        have H1 : (fullerref09_Same.l0 k1 l0 l1 (wrap64 (x5_1 + 1))) = some r := by rw [if_pos rfl] at H; exact H
        clear H
        have H := H1
        clear H1
        have H' := Aside0.mk H
        clear H
        try go_wp2
        replace HB := Aside0.mk (below_drew1 HB.out)
        have p460 : 0 ≤ (x5_1 : Int) := od_
        have q460 : x5_1 < (l0.length : Int) := od_
        obtain ⟨ad460, A460_0, c460_0, A460_1, c460_1, e460, hx460_0, hx460_1, hl460_0, hi460_0, hl460_1, hi460_1⟩ := at_T37 HR0.out x5_1 p460 q460
        have hw460_1 := hx460_1
        have hw460_0 := hx460_0
        cases e460
        replace hx460_0 := hb_ HB hx460_0
        replace hx460_1 := hb_ HB hx460_1
        have HR460_0 := Aside0.mk hi460_0
        have HC460_0 := Aside0.mk hl460_0
        clear hi460_0 hl460_0
        have HR460_1 := Aside0.mk hi460_1
        have HC460_1 := Aside0.mk hl460_1
        clear hi460_1 hl460_1
        replace p460 := eq_true p460
        replace q460 := eq_true q460
        have p461 : 0 ≤ (x5_1 : Int) := od_
        have q461 : x5_1 < (l1.length : Int) := od_
        obtain ⟨ad461, A461_0, c461_0, A461_1, c461_1, e461, hx461_0, hx461_1, hl461_0, hi461_0, hl461_1, hi461_1⟩ := at_T37 HR1.out x5_1 p461 q461
        have hw461_1 := hx461_1
        have hw461_0 := hx461_0
        cases e461
        replace hx461_0 := hb_ HB hx461_0
        replace hx461_1 := hb_ HB hx461_1
        have HR461_0 := Aside0.mk hi461_0
        have HC461_0 := Aside0.mk hl461_0
        clear hi461_0 hl461_0
        have HR461_1 := Aside0.mk hi461_1
        have HC461_1 := Aside0.mk hl461_1
        clear hi461_1 hl461_1
        replace p461 := eq_true p461
        replace q461 := eq_true q461
        refine start_ (n := 10) (S := fun w' => w'.cell? (ad460.add ((x5_1).toNat * 2)) = some (.slice A460_0 ((rd_T37 l0 x5_1).f0).length c460_0) ∧ w'.cell? ⟨(ad460.add ((x5_1).toNat * 2)).block, (ad460.add ((x5_1).toNat * 2)).off + 1, none⟩ = some (.slice A460_1 ((rd_T37 l0 x5_1).f1).length c460_1) ∧ w'.cell? (ad461.add ((x5_1).toNat * 2)) = some (.slice A461_0 ((rd_T37 l1 x5_1).f0).length c461_0) ∧ w'.cell? ⟨(ad461.add ((x5_1).toNat * 2)).block, (ad461.add ((x5_1).toNat * 2)).off + 1, none⟩ = some (.slice A461_1 ((rd_T37 l1 x5_1).f1).length c461_1)) (ds := []) L18_0 (by kernel_rfl) rfl rfl ⟨((HB.out.cell (World.block_lt_of_cell? w _ hw460_0)).trans hw460_0), ((HB.out.cell (World.block_lt_of_cell? w _ hw460_1)).trans hw460_1), ((HB.out.cell (World.block_lt_of_cell? w _ hw461_0)).trans hw461_0), ((HB.out.cell (World.block_lt_of_cell? w _ hw461_1)).trans hw461_1)⟩ (fun hHeld => ?_); refine with_tabW fullerref09_Same.tab6 fullerref09_Same.bits6 (fun HT_ HW_ => ?_)
        generalize wr.drew = w9 at HB HR460_0 HR460_1 HR461_0 HR461_1 hx460_0 hx460_1 hx461_0 hx461_1 hHeld ⊢
        refine pu_ 0 (some 18) L18_1 HT_ ?_
        refine pu_ 1 (some 19) L18_2 HT_ ?_
        refine pu_ 2 (some 20) L18_3 HT_ ?_
        refine pu_ 4 (some 22) L18_4 HT_ ?_
        refine pu_ 5 (some 23) L18_5 HT_ ?_
        refine pu_ 6 (some 24) L18_6 HT_ ?_
        refine ta_ 3 (some 21) L18_7 HT_ HW_ hHeld ?_ (hy := by rintro w' ⟨s0, s1, s2, s3⟩; go_simp; with_reducible rfl)
        refine ta_ 7 (some 25) L18_8 HT_ HW_ hHeld ?_ (hy := by rintro w' ⟨s0, s1, s2, s3⟩; go_simp; with_reducible rfl)
        refine one_ (i := 8) (N := some 26) L18_9 rfl rfl (one_of HT_.out (by kernel_rfl)) (by decide) (fun K hK => ?_)
        refine goes_ Try.func15 (by kernel_rfl) rfl #[.agg #[.slice A460_0 ((rd_T37 l0 x5_1).f0).length c460_0, .slice A460_1 ((rd_T37 l0 x5_1).f1).length c460_1], .agg #[.slice A461_0 ((rd_T37 l1 x5_1).f0).length c461_0, .slice A461_1 ((rd_T37 l1 x5_1).f1).length c461_1]] (by rfl) rfl rfl (by (try simp only [List.map_toArray, List.map_cons, List.map_nil]); first | done | rfl | (simp only [List.length_drop, List.length_take]; rfl)) ?_
        with_reducible refine (fullerref03_Same.calls k1 _ _ ((rd_T37 l0 x5_1).f0) _ _ ((rd_T37 l0 x5_1).f1) _ _ ((rd_T37 l1 x5_1).f0) _ _ ((rd_T37 l1 x5_1).f1) true _ ?side1 ?side2 ?side3 ?side4 ?side5 ?side6 ?side7 ?side8 A7.out).mono ?_
        (case side1 => exact mvC_ ((Kd.C_below HR460_0.out HB.out)))
        (case side2 => exact HC460_0.out)
        (case side3 => exact mvC_ ((Kd.C_below HR460_1.out HB.out)))
        (case side4 => exact HC460_1.out)
        (case side5 => exact mvC_ ((Kd.C_below HR461_0.out HB.out)))
        (case side6 => exact HC461_0.out)
        (case side7 => exact mvC_ ((Kd.C_below HR461_1.out HB.out)))
        (case side8 => exact HC461_1.out)
        rintro e w10 ⟨rfl, hb⟩
        refine ⟨_, rfl, ?_⟩
        replace HB := Aside0.mk (below_step (bq0_ HB.out) hb)
        (try clear hb)
        (try clear hb2)
        (try clear hk)
        (try clear hi)
        refine hK.out _ _ ⟨((HB.out.cell (World.block_lt_of_cell? w _ hw460_0)).trans hw460_0), ((HB.out.cell (World.block_lt_of_cell? w _ hw460_1)).trans hw460_1), ((HB.out.cell (World.block_lt_of_cell? w _ hw461_0)).trans hw461_0), ((HB.out.cell (World.block_lt_of_cell? w _ hw461_1)).trans hw461_1)⟩ (fun hHeld => ?_)
        clear hK K
        refine norm_ (a' := ?_) ?_ ?_
        rotate_left
        ·show Act.put _ (some 26) _ = _
         simp only [Act.put, sA_, sB_, sC_, i64_w, i32_w]
         rfl
        refine pu_ 9 (some 6) L18_10 HT_ ?_
        refine done_ (done_of HT_.out (by kernel_rfl)) ?_
        try go_wp2
        go_roundg k1
        case measure => have := HK1.out; omega
        case rel => exact ⟨(wrap64 (x5_1 + 1)), (by first | rfl | (simp; done) | (simp [*]; done)), H', ⟨by have := HK1.out; omega⟩, ⟨bq0_ HB.out⟩⟩
       ·replace c8 := Bool.eq_false_iff.mpr c8
        subst c8
        have H1 : (some false) = some r := by rw [if_neg (show ¬ (false = true) by decide)] at H; exact H
        clear H
        have H := H1
        clear H1
        obtain rfl := Option.some.inj H
        try go_wp2
        replace HB := Aside0.mk (below_drew1 HB.out)
        have p460 : 0 ≤ (x5_1 : Int) := od_
        have q460 : x5_1 < (l0.length : Int) := od_
        obtain ⟨ad460, A460_0, c460_0, A460_1, c460_1, e460, hx460_0, hx460_1, hl460_0, hi460_0, hl460_1, hi460_1⟩ := at_T37 HR0.out x5_1 p460 q460
        have hw460_1 := hx460_1
        have hw460_0 := hx460_0
        cases e460
        replace hx460_0 := hb_ HB hx460_0
        replace hx460_1 := hb_ HB hx460_1
        have HR460_0 := Aside0.mk hi460_0
        have HC460_0 := Aside0.mk hl460_0
        clear hi460_0 hl460_0
        have HR460_1 := Aside0.mk hi460_1
        have HC460_1 := Aside0.mk hl460_1
        clear hi460_1 hl460_1
        replace p460 := eq_true p460
        replace q460 := eq_true q460
        have p461 : 0 ≤ (x5_1 : Int) := od_
        have q461 : x5_1 < (l1.length : Int) := od_
        obtain ⟨ad461, A461_0, c461_0, A461_1, c461_1, e461, hx461_0, hx461_1, hl461_0, hi461_0, hl461_1, hi461_1⟩ := at_T37 HR1.out x5_1 p461 q461
        have hw461_1 := hx461_1
        have hw461_0 := hx461_0
        cases e461
        replace hx461_0 := hb_ HB hx461_0
        replace hx461_1 := hb_ HB hx461_1
        have HR461_0 := Aside0.mk hi461_0
        have HC461_0 := Aside0.mk hl461_0
        clear hi461_0 hl461_0
        have HR461_1 := Aside0.mk hi461_1
        have HC461_1 := Aside0.mk hl461_1
        clear hi461_1 hl461_1
        replace p461 := eq_true p461
        replace q461 := eq_true q461
        refine start_ (n := 10) (S := fun w' => w'.cell? (ad460.add ((x5_1).toNat * 2)) = some (.slice A460_0 ((rd_T37 l0 x5_1).f0).length c460_0) ∧ w'.cell? ⟨(ad460.add ((x5_1).toNat * 2)).block, (ad460.add ((x5_1).toNat * 2)).off + 1, none⟩ = some (.slice A460_1 ((rd_T37 l0 x5_1).f1).length c460_1) ∧ w'.cell? (ad461.add ((x5_1).toNat * 2)) = some (.slice A461_0 ((rd_T37 l1 x5_1).f0).length c461_0) ∧ w'.cell? ⟨(ad461.add ((x5_1).toNat * 2)).block, (ad461.add ((x5_1).toNat * 2)).off + 1, none⟩ = some (.slice A461_1 ((rd_T37 l1 x5_1).f1).length c461_1)) (ds := []) L18_0 (by kernel_rfl) rfl rfl ⟨((HB.out.cell (World.block_lt_of_cell? w _ hw460_0)).trans hw460_0), ((HB.out.cell (World.block_lt_of_cell? w _ hw460_1)).trans hw460_1), ((HB.out.cell (World.block_lt_of_cell? w _ hw461_0)).trans hw461_0), ((HB.out.cell (World.block_lt_of_cell? w _ hw461_1)).trans hw461_1)⟩ (fun hHeld => ?_); refine with_tabW fullerref09_Same.tab6 fullerref09_Same.bits6 (fun HT_ HW_ => ?_)
        generalize wr.drew = w11 at HB HR460_0 HR460_1 HR461_0 HR461_1 hx460_0 hx460_1 hx461_0 hx461_1 hHeld ⊢
        refine pu_ 0 (some 18) L18_1 HT_ ?_
        refine pu_ 1 (some 19) L18_2 HT_ ?_
        refine pu_ 2 (some 20) L18_3 HT_ ?_
        refine pu_ 4 (some 22) L18_4 HT_ ?_
        refine pu_ 5 (some 23) L18_5 HT_ ?_
        refine pu_ 6 (some 24) L18_6 HT_ ?_
        refine ta_ 3 (some 21) L18_7 HT_ HW_ hHeld ?_ (hy := by rintro w' ⟨s0, s1, s2, s3⟩; go_simp; with_reducible rfl)
        refine ta_ 7 (some 25) L18_8 HT_ HW_ hHeld ?_ (hy := by rintro w' ⟨s0, s1, s2, s3⟩; go_simp; with_reducible rfl)
        refine one_ (i := 8) (N := some 26) L18_9 rfl rfl (one_of HT_.out (by kernel_rfl)) (by decide) (fun K hK => ?_)
        refine goes_ Try.func15 (by kernel_rfl) rfl #[.agg #[.slice A460_0 ((rd_T37 l0 x5_1).f0).length c460_0, .slice A460_1 ((rd_T37 l0 x5_1).f1).length c460_1], .agg #[.slice A461_0 ((rd_T37 l1 x5_1).f0).length c461_0, .slice A461_1 ((rd_T37 l1 x5_1).f1).length c461_1]] (by rfl) rfl rfl (by (try simp only [List.map_toArray, List.map_cons, List.map_nil]); first | done | rfl | (simp only [List.length_drop, List.length_take]; rfl)) ?_
        with_reducible refine (fullerref03_Same.calls k1 _ _ ((rd_T37 l0 x5_1).f0) _ _ ((rd_T37 l0 x5_1).f1) _ _ ((rd_T37 l1 x5_1).f0) _ _ ((rd_T37 l1 x5_1).f1) false _ ?side1 ?side2 ?side3 ?side4 ?side5 ?side6 ?side7 ?side8 A7.out).mono ?_
        (case side1 => exact mvC_ ((Kd.C_below HR460_0.out HB.out)))
        (case side2 => exact HC460_0.out)
        (case side3 => exact mvC_ ((Kd.C_below HR460_1.out HB.out)))
        (case side4 => exact HC460_1.out)
        (case side5 => exact mvC_ ((Kd.C_below HR461_0.out HB.out)))
        (case side6 => exact HC461_0.out)
        (case side7 => exact mvC_ ((Kd.C_below HR461_1.out HB.out)))
        (case side8 => exact HC461_1.out)
        rintro e w12 ⟨rfl, hb⟩
        refine ⟨_, rfl, ?_⟩
        replace HB := Aside0.mk (below_step (bq0_ HB.out) hb)
        (try clear hb)
        (try clear hb2)
        (try clear hk)
        (try clear hi)
        refine hK.out _ _ ⟨((HB.out.cell (World.block_lt_of_cell? w _ hw460_0)).trans hw460_0), ((HB.out.cell (World.block_lt_of_cell? w _ hw460_1)).trans hw460_1), ((HB.out.cell (World.block_lt_of_cell? w _ hw461_0)).trans hw461_0), ((HB.out.cell (World.block_lt_of_cell? w _ hw461_1)).trans hw461_1)⟩ (fun hHeld => ?_)
        clear hK K
        refine norm_ (a' := ?_) ?_ ?_
        rotate_left
        ·show Act.put _ (some 26) _ = _
         simp only [Act.put, sA_, sB_, sC_, i64_w, i32_w]
         rfl
        refine pu_ 9 (some 6) L18_10 HT_ ?_
        refine done_ (done_of HT_.out (by kernel_rfl)) ?_
        try go_wp2
        go_ret
        exact ⟨by first | rfl | (simp <;> rfl) | (simp [*] <;> rfl), bq0_ HB.out⟩
      ·rw [if_neg c6] at H
       exact absurd H (by simp)
     ·rw [if_neg c5] at H
      exact absurd H (by simp)
    ·rw [if_neg c4] at H
     have c4b0 : decide (x5_1 < (l0.length : Int)) = false := decide_eq_false c4
     clear c4
     obtain rfl := Option.some.inj H
     go_wp2
     go_ret
     exact ⟨by first | rfl | (simp <;> rfl) | (simp [*] <;> rfl), bq0_ HB.out⟩
 ·rw [if_neg c3] at H
  have c3b0 : ((l0.length : Int) == (l1.length : Int)) = false := beq_eq_false_iff_ne.mpr c3
  have c3b1 : ((l0.length : Int) != (l1.length : Int)) = true := bne_iff_ne.mpr c3
  have c3b2 : (l0.length == l1.length) = false := by first | simpa using c3 | (simp at c3 ⊢; omega)
  obtain rfl := Option.some.inj H
  go_enter Try.func18, Try.ntmps18
  go_wp2
  go_ret
  exact ⟨by first | rfl | (simp <;> rfl) | (simp [*] <;> rfl), bq0_ HB.out⟩
end Go.Proofs.Ytmolbbebglfhmaa.A
