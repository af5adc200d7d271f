/- Lean functions that answer as the Go functions do, and the proofs that they do; no conditions. Written by this session's own driver: a scratch copy of the kit's print with the session's additions (wip/xprint). -/
import Derived.Test.YtmolbbebglfhmaaAx0
import Derived.Test.YtmolbbebglfhmaaAx11
namespace Go.Proofs.Ytmolbbebglfhmaa.A
open Go.RowKit Go.Proofs.YtmolbbebglfhmaaW.PrintWords Go.Proofs.YtmolbbebglfhmaaW.PrintLast Go.Proofs.YtmolbbebglfhmaaW.PrintMore
attribute [local go_sem] max2_int min2_int max_two min_two max_three min_three max_four min_four
set_option linter.unusedVariables false
set_option linter.unusedSimpArgs false
def L36_0 : Array Bool := #[false, false, false, false, false, false, false, false, false, false, false, false]
def L36_1 : Array Bool := #[true, false, false, false, false, false, false, false, false, false, false, false]
def L36_2 : Array Bool := #[true, true, false, false, false, false, false, false, false, false, false, false]
def L36_3 : Array Bool := #[true, true, true, false, false, false, false, false, false, false, false, false]
def L36_4 : Array Bool := #[true, true, true, true, false, false, false, false, false, false, false, false]
def L36_5 : Array Bool := #[true, true, true, true, false, true, false, false, false, false, false, false]
def L36_6 : Array Bool := #[true, true, true, true, false, true, true, false, false, false, false, false]
def L36_7 : Array Bool := #[true, true, true, true, false, true, true, true, false, false, false, false]
def L36_8 : Array Bool := #[true, true, true, true, false, true, true, true, true, false, false, false]
def L36_9 : Array Bool := #[true, true, true, true, true, true, true, true, true, false, false, false]
def L36_10 : Array Bool := #[true, true, true, true, true, true, true, true, true, true, false, false]
def L36_11 : Array Bool := #[true, true, true, true, true, true, true, true, true, true, true, false]
def L36_12 : Array Bool := #[true, true, true, true, true, true, true, true, true, true, true, true]
def L36_13 : Array Bool := #[false, false, false, false, false, false, false, false, false, false, false, false, false, false, false]
def L36_14 : Array Bool := #[true, false, false, false, false, false, false, false, false, false, false, false, false, false, false]
def L36_15 : Array Bool := #[true, true, false, false, false, false, false, false, false, false, false, false, false, false, false]
def L36_16 : Array Bool := #[true, true, true, false, false, false, false, false, false, false, false, false, false, false, false]
def L36_17 : Array Bool := #[true, true, true, true, false, false, false, false, false, false, false, false, false, false, false]
def L36_18 : Array Bool := #[true, true, true, true, true, false, false, false, false, false, false, false, false, false, false]
def L36_19 : Array Bool := #[true, true, true, true, true, true, false, false, false, false, false, false, false, false, false]
def L36_20 : Array Bool := #[true, true, true, true, true, true, true, false, false, false, false, false, false, false, false]
def L36_21 : Array Bool := #[true, true, true, true, true, true, true, false, true, false, false, false, false, false, false]
def L36_22 : Array Bool := #[true, true, true, true, true, true, true, false, true, true, false, false, false, false, false]
def L36_23 : Array Bool := #[true, true, true, true, true, true, true, false, true, true, true, false, false, false, false]
def L36_24 : Array Bool := #[true, true, true, true, true, true, true, false, true, true, true, true, false, false, false]
def L36_25 : Array Bool := #[true, true, true, true, true, true, true, true, true, true, true, true, false, false, false]
def L36_26 : Array Bool := #[true, true, true, true, true, true, true, true, true, true, true, true, true, false, false]
def L36_27 : Array Bool := #[true, true, true, true, true, true, true, true, true, true, true, true, true, true, false]
def L36_28 : Array Bool := #[true, true, true, true, true, true, true, true, true, true, true, true, true, true, true]
def fullerref17_Same.l0 : Nat → List (S74) → List (S74) → Int → Option (Bool)
 | 0, _, _, _ => none
 | k + 1, x0, x1, x5 => if x5 < (x0.length : Int) then (if 0 ≤ x5 then (if x5 < (x1.length : Int) then ((fullerref03_Same.f k ((rd_T74 x0 x5).f1.f0) ((rd_T74 x0 x5).f1.f1) ((rd_T74 x1 x5).f1.f0) ((rd_T74 x1 x5).f1.f1)).bind fun t375 => (if t375 = true then (if ((rd_T74 x0 x5).f0) = ((rd_T74 x1 x5).f0) then (fullerref17_Same.l0 k x0 x1 (wrap64 (x5 + 1))) else (some false)) else (some false))) else (none)) else (none)) else (some true)
def fullerref17_Same.f (k : Nat) (l0 : List (S74)) (l1 : List (S74)) : Option (Bool) := if (l0.length : Int) = (l1.length : Int) then (fullerref17_Same.l0 k l0 l1 0) else (some false)
def fullerref17_Same.T6 : Bool × List (List Nat × List Nat) := (true, [([], []), ([], []), ([0, 1], [0, 1]), ([2], [2]), ([3], [3]), ([], []), ([], []), ([5, 6], [5, 6]), ([7], [7]), ([8], [8]), ([4, 9], [4, 9]), ([10, 10, 0, 1, 2, 3, 4, 5, 6, 7, 8, 9, 10], [10])])
def fullerref17_Same.B6 : List Nat := [0, 0, 3, 7, 15, 0, 0, 96, 224, 480, 1023, 2047]
theorem fullerref17_Same.tab6 : rtab .any (opsOf Try.f36 6) = fullerref17_Same.T6 := by kernel_rfl
theorem fullerref17_Same.bits6 : waitsOk fullerref17_Same.T6.2 fullerref17_Same.B6 = true := by kernel_rfl
def fullerref17_Same.T7 : Bool × List (List Nat × List Nat) := (true, [([], []), ([0], [0]), ([1], [1]), ([2], [2]), ([2], [2]), ([3, 4, 2], [2, 3, 4]), ([5, 2], [2, 5]), ([6, 2], [2, 6]), ([2], [2]), ([2], [2]), ([8, 9, 2], [2, 8, 9]), ([10, 2], [2, 10]), ([11, 2], [2, 11]), ([7, 12, 2], [2, 7, 12]), ([2, 13], [2, 13])])
def fullerref17_Same.B7 : List Nat := [0, 1, 3, 7, 7, 31, 63, 127, 7, 7, 775, 1799, 3847, 8191, 16383]
theorem fullerref17_Same.tab7 : rtab .any (opsOf Try.f36 7) = fullerref17_Same.T7 := by kernel_rfl
theorem fullerref17_Same.bits7 : waitsOk fullerref17_Same.T7.2 fullerref17_Same.B7 = true := by kernel_rfl
set_option maxHeartbeats 8000000 in
set_option maxRecDepth 100000 in
theorem fullerref17_Same.calls (k : Nat) (A0 : Option Addr) (c0 : Nat) (l0 : List (S74)) (A1 : Option Addr) (c1 : Nat) (l1 : List (S74)) (r : Bool) (w : World) (hr0 : Kd.C k74 w A0 l0.length l0) (hc0 : l0.length ≤ c0) (hr1 : Kd.C k74 w A1 l1.length l1) (hc1 : l1.length ≤ c1) (h : fullerref17_Same.f k l0 l1 = some r) :
  Calls Try.prog 36 #[.slice A0 l0.length c0, .slice A1 l1.length c1] w fun e w' => e = .returned (.bool r) ∧ Below w.heap.size w w' := by
 have hu37 := Try.underlying37
 have HR0 := Aside0.mk hr0
 have HC0 := Aside0.mk hc0
 clear hr0 hc0
 have HR1 := Aside0.mk hr1
 have HC1 := Aside0.mk hc1
 clear hr1 hc1
 have HB := Aside0.mk (Below.refl w.heap.size w)
 have H : (if (l0.length : Int) = (l1.length : Int) then (fullerref17_Same.l0 k l0 l1 0) else (some false)) = some r := h
 clear h
 by_cases c3 : (l0.length : Int) = (l1.length : Int)
 ·rw [if_pos c3] at H
  have c3b0 : ((l0.length : Int) == (l1.length : Int)) = true := beq_iff_eq.mpr c3
  have c3b1 : ((l0.length : Int) != (l1.length : Int)) = false := bne_eq_false_iff_eq.mpr c3
  have c3b2 : (l0.length == l1.length) = true := by first | simpa using c3 | (simp at c3 ⊢; omega)
  clear c3
  have H' := Aside0.mk H
  clear H
  go_enter Try.func36, Try.ntmps36
  go_wp2
  go_loopg [5] k (fun kq v5 w' => ∃ (x5_1 : Int), v5 = .int .i64 x5_1 ∧ Aside0 (fullerref17_Same.l0 kq l0 l1 x5_1 = some r) ∧ Aside0 (kq ≤ k) ∧ Aside0 (Below w.heap.size w w'))
  case atStart => exact ⟨(0), (by first | rfl | (simp; done) | (simp [*]; done)), H', ⟨Nat.le_refl _⟩, ⟨bq0_ HB.out⟩⟩
  case round =>
   clear H'
   try clear c1
   try clear p2
   try clear c3
   try clear c3b0
   try clear c3b1
   try clear c3b2
   obtain ⟨x5_1, rfl, HA, HK1, HB⟩ := hrel
   cases gk with
   | zero => exact absurd HA.out (by simp [fullerref17_Same.l0])
   | succ k1 =>
    have H := HA.out
    clear HA
    simp only [fullerref17_Same.l0] at H
    by_cases c4 : x5_1 < (l0.length : Int)
    ·rw [if_pos c4] at H
     have c4b0 : decide (x5_1 < (l0.length : Int)) = true := decide_eq_true c4
     clear c4
     by_cases c5 : 0 ≤ x5_1
     ·rw [if_pos c5] at H
      have c5b0 : decide (0 ≤ x5_1) = true := decide_eq_true c5
      clear c5
      by_cases c6 : x5_1 < (l1.length : Int)
      ·rw [if_pos c6] at H
       have c6b0 : decide (x5_1 < (l1.length : Int)) = true := decide_eq_true c6
       clear c6
       replace H := Option.bind_eq_some_iff.mp H
       obtain ⟨t375, A70, H⟩ := H
       replace H : (if t375 = true then (if ((rd_T74 l0 x5_1).f0) = ((rd_T74 l1 x5_1).f0) then (fullerref17_Same.l0 k1 l0 l1 (wrap64 (x5_1 + 1))) else (some false)) else (some false)) = some r := H
       have A7 := Aside0.mk A70
       clear A70
       by_cases c8 : t375 = true
       ·subst c8
        have H1 : (if ((rd_T74 l0 x5_1).f0) = ((rd_T74 l1 x5_1).f0) then (fullerref17_Same.l0 k1 l0 l1 (wrap64 (x5_1 + 1))) else (some false)) = some r := by rw [if_pos rfl] at H; exact H
        clear H
        have H := H1
        clear H1
        by_cases c9 : ((rd_T74 l0 x5_1).f0) = ((rd_T74 l1 x5_1).f0)
        ·rw [if_pos c9] at H
         obtain ⟨c9b0, c9b1⟩ := eqT_ c9
         clear c9
         have H' := Aside0.mk H
         clear H
         try go_wp2
         replace HB := Aside0.mk (below_drew1 HB.out)
         have p373 : 0 ≤ (x5_1 : Int) := od_
         have q373 : x5_1 < (l0.length : Int) := od_
         obtain ⟨ad373, A373_1, c373_1, A373_2, c373_2, e373, hx373_0, hx373_1, hx373_2, hl373_1, hi373_1, hl373_2, hi373_2⟩ := at_T74 HR0.out x5_1 p373 q373
         have hw373_2 := hx373_2
         have hw373_1 := hx373_1
         have hw373_0 := hx373_0
         cases e373
         replace hx373_0 := hb_ HB hx373_0
         replace hx373_1 := hb_ HB hx373_1
         replace hx373_2 := hb_ HB hx373_2
         have HR373_1 := Aside0.mk hi373_1
         have HC373_1 := Aside0.mk hl373_1
         clear hi373_1 hl373_1
         have HR373_2 := Aside0.mk hi373_2
         have HC373_2 := Aside0.mk hl373_2
         clear hi373_2 hl373_2
         replace p373 := eq_true p373
         replace q373 := eq_true q373
         have p374 : 0 ≤ (x5_1 : Int) := od_
         have q374 : x5_1 < (l1.length : Int) := od_
         obtain ⟨ad374, A374_1, c374_1, A374_2, c374_2, e374, hx374_0, hx374_1, hx374_2, hl374_1, hi374_1, hl374_2, hi374_2⟩ := at_T74 HR1.out x5_1 p374 q374
         have hw374_2 := hx374_2
         have hw374_1 := hx374_1
         have hw374_0 := hx374_0
         cases e374
         replace hx374_0 := hb_ HB hx374_0
         replace hx374_1 := hb_ HB hx374_1
         replace hx374_2 := hb_ HB hx374_2
         have HR374_1 := Aside0.mk hi374_1
         have HC374_1 := Aside0.mk hl374_1
         clear hi374_1 hl374_1
         have HR374_2 := Aside0.mk hi374_2
         have HC374_2 := Aside0.mk hl374_2
         clear hi374_2 hl374_2
         replace p374 := eq_true p374
         replace q374 := eq_true q374
         refine start_ (n := 12) (S := fun w' => w'.cell? (ad373.add ((x5_1).toNat * 3)) = some (.int .i64 ((rd_T74 l0 x5_1).f0)) ∧ w'.cell? ⟨(ad373.add ((x5_1).toNat * 3)).block, (ad373.add ((x5_1).toNat * 3)).off + 1, none⟩ = some (.slice A373_1 ((rd_T74 l0 x5_1).f1.f0).length c373_1) ∧ w'.cell? ⟨(ad373.add ((x5_1).toNat * 3)).block, (ad373.add ((x5_1).toNat * 3)).off + 2, none⟩ = some (.slice A373_2 ((rd_T74 l0 x5_1).f1.f1).length c373_2) ∧ w'.cell? (ad374.add ((x5_1).toNat * 3)) = some (.int .i64 ((rd_T74 l1 x5_1).f0)) ∧ w'.cell? ⟨(ad374.add ((x5_1).toNat * 3)).block, (ad374.add ((x5_1).toNat * 3)).off + 1, none⟩ = some (.slice A374_1 ((rd_T74 l1 x5_1).f1.f0).length c374_1) ∧ w'.cell? ⟨(ad374.add ((x5_1).toNat * 3)).block, (ad374.add ((x5_1).toNat * 3)).off + 2, none⟩ = some (.slice A374_2 ((rd_T74 l1 x5_1).f1.f1).length c374_2)) (ds := []) L36_0 (by kernel_rfl) rfl rfl ⟨((HB.out.cell (World.block_lt_of_cell? w _ hw373_0)).trans hw373_0), ((HB.out.cell (World.block_lt_of_cell? w _ hw373_1)).trans hw373_1), ((HB.out.cell (World.block_lt_of_cell? w _ hw373_2)).trans hw373_2), ((HB.out.cell (World.block_lt_of_cell? w _ hw374_0)).trans hw374_0), ((HB.out.cell (World.block_lt_of_cell? w _ hw374_1)).trans hw374_1), ((HB.out.cell (World.block_lt_of_cell? w _ hw374_2)).trans hw374_2)⟩ (fun hHeld => ?_); refine with_tabW fullerref17_Same.tab6 fullerref17_Same.bits6 (fun HT_ HW_ => ?_)
         generalize wr.drew = w10 at HB HR373_1 HR373_2 HR374_1 HR374_2 hx373_0 hx373_1 hx373_2 hx374_0 hx374_1 hx374_2 hHeld ⊢
         refine pu_ 0 (some 18) L36_1 HT_ ?_
         refine pu_ 1 (some 19) L36_2 HT_ ?_
         refine pu_ 2 (some 20) L36_3 HT_ ?_
         refine pu_ 3 (some 21) L36_4 HT_ ?_
         refine pu_ 5 (some 23) L36_5 HT_ ?_
         refine pu_ 6 (some 24) L36_6 HT_ ?_
         refine pu_ 7 (some 25) L36_7 HT_ ?_
         refine pu_ 8 (some 26) L36_8 HT_ ?_
         refine ta_ 4 (some 22) L36_9 HT_ HW_ hHeld ?_ (hy := by rintro w' ⟨s0, s1, s2, s3, s4, s5⟩; go_simp; with_reducible rfl)
         refine ta_ 9 (some 27) L36_10 HT_ HW_ hHeld ?_ (hy := by rintro w' ⟨s0, s1, s2, s3, s4, s5⟩; go_simp; with_reducible rfl)
         refine one_ (i := 10) (N := some 28) L36_11 rfl rfl (one_of HT_.out (by kernel_rfl)) (by decide) (fun K hK => ?_)
         refine goes_ Try.func15 (by kernel_rfl) rfl #[.agg #[.slice A373_1 ((rd_T74 l0 x5_1).f1.f0).length c373_1, .slice A373_2 ((rd_T74 l0 x5_1).f1.f1).length c373_2], .agg #[.slice A374_1 ((rd_T74 l1 x5_1).f1.f0).length c374_1, .slice A374_2 ((rd_T74 l1 x5_1).f1.f1).length c374_2]] (by rfl) rfl rfl (by (try simp only [List.map_toArray, List.map_cons, List.map_nil]); first | done | rfl | (simp only [List.length_drop, List.length_take]; rfl)) ?_
         with_reducible refine (fullerref03_Same.calls k1 _ _ ((rd_T74 l0 x5_1).f1.f0) _ _ ((rd_T74 l0 x5_1).f1.f1) _ _ ((rd_T74 l1 x5_1).f1.f0) _ _ ((rd_T74 l1 x5_1).f1.f1) true _ ?side1 ?side2 ?side3 ?side4 ?side5 ?side6 ?side7 ?side8 A7.out).mono ?_
         (case side1 => exact mvC_ ((Kd.C_below HR373_1.out HB.out)))
         (case side2 => exact HC373_1.out)
         (case side3 => exact mvC_ ((Kd.C_below HR373_2.out HB.out)))
         (case side4 => exact HC373_2.out)
         (case side5 => exact mvC_ ((Kd.C_below HR374_1.out HB.out)))
         (case side6 => exact HC374_1.out)
         (case side7 => exact mvC_ ((Kd.C_below HR374_2.out HB.out)))
         (case side8 => exact HC374_2.out)
         rintro e w11 ⟨rfl, hb⟩
         refine ⟨_, rfl, ?_⟩
         replace HB := Aside0.mk (below_step (bq0_ HB.out) hb)
         (try clear hb)
         (try clear hb2)
         (try clear hk)
         (try clear hi)
         refine hK.out _ _ ⟨((HB.out.cell (World.block_lt_of_cell? w _ hw373_0)).trans hw373_0), ((HB.out.cell (World.block_lt_of_cell? w _ hw373_1)).trans hw373_1), ((HB.out.cell (World.block_lt_of_cell? w _ hw373_2)).trans hw373_2), ((HB.out.cell (World.block_lt_of_cell? w _ hw374_0)).trans hw374_0), ((HB.out.cell (World.block_lt_of_cell? w _ hw374_1)).trans hw374_1), ((HB.out.cell (World.block_lt_of_cell? w _ hw374_2)).trans hw374_2)⟩ (fun hHeld => ?_)
         clear hK K
         refine norm_ (a' := ?_) ?_ ?_
         rotate_left
         ·show Act.put _ (some 28) _ = _
          simp only [Act.put, sA_, sB_, sC_, i64_w, i32_w]
          rfl
         refine pu_ 11 (some 6) L36_12 HT_ ?_
         refine done_ (done_of HT_.out (by kernel_rfl)) ?_
         try go_wp2
         replace HB := Aside0.mk (below_drew1 HB.out)
         have p376 : 0 ≤ (x5_1 : Int) := od_
         have q376 : x5_1 < (l0.length : Int) := od_
         obtain ⟨ad376, A376_1, c376_1, A376_2, c376_2, e376, hx376_0, hx376_1, hx376_2, hl376_1, hi376_1, hl376_2, hi376_2⟩ := at_T74 HR0.out x5_1 p376 q376
         have hw376_2 := hx376_2
         have hw376_1 := hx376_1
         have hw376_0 := hx376_0
         obtain rfl : ad373 = ad376 := (by injection e376)
         replace hx376_0 := hb_ HB hx376_0
         replace hx376_1 := hb_ HB hx376_1
         replace hx376_2 := hb_ HB hx376_2
         have HR376_1 := Aside0.mk hi376_1
         have HC376_1 := Aside0.mk hl376_1
         clear hi376_1 hl376_1
         have HR376_2 := Aside0.mk hi376_2
         have HC376_2 := Aside0.mk hl376_2
         clear hi376_2 hl376_2
         replace p376 := eq_true p376
         replace q376 := eq_true q376
         have p377 : 0 ≤ (x5_1 : Int) := od_
         have q377 : x5_1 < (l1.length : Int) := od_
         obtain ⟨ad377, A377_1, c377_1, A377_2, c377_2, e377, hx377_0, hx377_1, hx377_2, hl377_1, hi377_1, hl377_2, hi377_2⟩ := at_T74 HR1.out x5_1 p377 q377
         have hw377_2 := hx377_2
         have hw377_1 := hx377_1
         have hw377_0 := hx377_0
         obtain rfl : ad374 = ad377 := (by injection e377)
         replace hx377_0 := hb_ HB hx377_0
         replace hx377_1 := hb_ HB hx377_1
         replace hx377_2 := hb_ HB hx377_2
         have HR377_1 := Aside0.mk hi377_1
         have HC377_1 := Aside0.mk hl377_1
         clear hi377_1 hl377_1
         have HR377_2 := Aside0.mk hi377_2
         have HC377_2 := Aside0.mk hl377_2
         clear hi377_2 hl377_2
         replace p377 := eq_true p377
         replace q377 := eq_true q377
         refine start_ (n := 15) (S := fun w' => w'.cell? (ad373.add ((x5_1).toNat * 3)) = some (.int .i64 ((rd_T74 l0 x5_1).f0)) ∧ w'.cell? ⟨(ad373.add ((x5_1).toNat * 3)).block, (ad373.add ((x5_1).toNat * 3)).off + 1, none⟩ = some (.slice A376_1 ((rd_T74 l0 x5_1).f1.f0).length c376_1) ∧ w'.cell? ⟨(ad373.add ((x5_1).toNat * 3)).block, (ad373.add ((x5_1).toNat * 3)).off + 2, none⟩ = some (.slice A376_2 ((rd_T74 l0 x5_1).f1.f1).length c376_2) ∧ w'.cell? (ad374.add ((x5_1).toNat * 3)) = some (.int .i64 ((rd_T74 l1 x5_1).f0)) ∧ w'.cell? ⟨(ad374.add ((x5_1).toNat * 3)).block, (ad374.add ((x5_1).toNat * 3)).off + 1, none⟩ = some (.slice A377_1 ((rd_T74 l1 x5_1).f1.f0).length c377_1) ∧ w'.cell? ⟨(ad374.add ((x5_1).toNat * 3)).block, (ad374.add ((x5_1).toNat * 3)).off + 2, none⟩ = some (.slice A377_2 ((rd_T74 l1 x5_1).f1.f1).length c377_2)) (ds := []) L36_13 (by kernel_rfl) rfl rfl ⟨((HB.out.cell (World.block_lt_of_cell? w _ hw376_0)).trans hw376_0), ((HB.out.cell (World.block_lt_of_cell? w _ hw376_1)).trans hw376_1), ((HB.out.cell (World.block_lt_of_cell? w _ hw376_2)).trans hw376_2), ((HB.out.cell (World.block_lt_of_cell? w _ hw377_0)).trans hw377_0), ((HB.out.cell (World.block_lt_of_cell? w _ hw377_1)).trans hw377_1), ((HB.out.cell (World.block_lt_of_cell? w _ hw377_2)).trans hw377_2)⟩ (fun hHeld => ?_); refine with_tabW fullerref17_Same.tab7 fullerref17_Same.bits7 (fun HT_ HW_ => ?_)
         generalize w11.drew = w12 at HB HR376_1 HR376_2 HR377_1 HR377_2 hx376_0 hx376_1 hx376_2 hx377_0 hx377_1 hx377_2 hHeld ⊢
         refine pu_ 0 (some 29) L36_14 HT_ ?_
         refine pu_ 1 (some 30) L36_15 HT_ ?_
         refine pu_ 2 (some 31) L36_16 HT_ ?_
         refine pu_ 3 (some 32) L36_17 HT_ ?_
         refine pu_ 4 (some 33) L36_18 HT_ ?_
         refine pu_ 5 (some 34) L36_19 HT_ ?_
         refine pu_ 6 (some 35) L36_20 HT_ ?_
         refine pu_ 8 (some 37) L36_21 HT_ ?_
         refine pu_ 9 (some 38) L36_22 HT_ ?_
         refine pu_ 10 (some 39) L36_23 HT_ ?_
         refine pu_ 11 (some 40) L36_24 HT_ ?_
         refine ta_ 7 (some 36) L36_25 HT_ HW_ hHeld ?_ (hy := by rintro w' ⟨s0, s1, s2, s3, s4, s5⟩; go_simp; with_reducible rfl)
         refine ta_ 12 (some 41) L36_26 HT_ HW_ hHeld ?_ (hy := by rintro w' ⟨s0, s1, s2, s3, s4, s5⟩; go_simp; with_reducible rfl)
         refine pu_ 13 (some 42) L36_27 HT_ ?_
         refine pu_ 14 (some 43) L36_28 HT_ ?_
         refine done_ (done_of HT_.out (by kernel_rfl)) ?_
         try go_wp2
         go_roundg k1
         case measure => have := HK1.out; omega
         case rel => exact ⟨(wrap64 (x5_1 + 1)), (by first | rfl | (simp; done) | (simp [*]; done)), H', ⟨by have := HK1.out; omega⟩, ⟨bq0_ HB.out⟩⟩
        ·rw [if_neg c9] at H
         have c9b0 : (((rd_T74 l0 x5_1).f0) == ((rd_T74 l1 x5_1).f0)) = false := beq_eq_false_iff_ne.mpr c9
         have c9b1 : (((rd_T74 l0 x5_1).f0) != ((rd_T74 l1 x5_1).f0)) = true := bne_iff_ne.mpr c9
         obtain rfl := Option.some.inj H
         try go_wp2
         replace HB := Aside0.mk (below_drew1 HB.out)
         have p373 : 0 ≤ (x5_1 : Int) := od_
         have q373 : x5_1 < (l0.length : Int) := od_
         obtain ⟨ad373, A373_1, c373_1, A373_2, c373_2, e373, hx373_0, hx373_1, hx373_2, hl373_1, hi373_1, hl373_2, hi373_2⟩ := at_T74 HR0.out x5_1 p373 q373
         have hw373_2 := hx373_2
         have hw373_1 := hx373_1
         have hw373_0 := hx373_0
         cases e373
         replace hx373_0 := hb_ HB hx373_0
         replace hx373_1 := hb_ HB hx373_1
         replace hx373_2 := hb_ HB hx373_2
         have HR373_1 := Aside0.mk hi373_1
         have HC373_1 := Aside0.mk hl373_1
         clear hi373_1 hl373_1
         have HR373_2 := Aside0.mk hi373_2
         have HC373_2 := Aside0.mk hl373_2
         clear hi373_2 hl373_2
         replace p373 := eq_true p373
         replace q373 := eq_true q373
         have p374 : 0 ≤ (x5_1 : Int) := od_
         have q374 : x5_1 < (l1.length : Int) := od_
         obtain ⟨ad374, A374_1, c374_1, A374_2, c374_2, e374, hx374_0, hx374_1, hx374_2, hl374_1, hi374_1, hl374_2, hi374_2⟩ := at_T74 HR1.out x5_1 p374 q374
         have hw374_2 := hx374_2
         have hw374_1 := hx374_1
         have hw374_0 := hx374_0
         cases e374
         replace hx374_0 := hb_ HB hx374_0
         replace hx374_1 := hb_ HB hx374_1
         replace hx374_2 := hb_ HB hx374_2
         have HR374_1 := Aside0.mk hi374_1
         have HC374_1 := Aside0.mk hl374_1
         clear hi374_1 hl374_1
         have HR374_2 := Aside0.mk hi374_2
         have HC374_2 := Aside0.mk hl374_2
         clear hi374_2 hl374_2
         replace p374 := eq_true p374
         replace q374 := eq_true q374
         refine start_ (n := 12) (S := fun w' => w'.cell? (ad373.add ((x5_1).toNat * 3)) = some (.int .i64 ((rd_T74 l0 x5_1).f0)) ∧ w'.cell? ⟨(ad373.add ((x5_1).toNat * 3)).block, (ad373.add ((x5_1).toNat * 3)).off + 1, none⟩ = some (.slice A373_1 ((rd_T74 l0 x5_1).f1.f0).length c373_1) ∧ w'.cell? ⟨(ad373.add ((x5_1).toNat * 3)).block, (ad373.add ((x5_1).toNat * 3)).off + 2, none⟩ = some (.slice A373_2 ((rd_T74 l0 x5_1).f1.f1).length c373_2) ∧ w'.cell? (ad374.add ((x5_1).toNat * 3)) = some (.int .i64 ((rd_T74 l1 x5_1).f0)) ∧ w'.cell? ⟨(ad374.add ((x5_1).toNat * 3)).block, (ad374.add ((x5_1).toNat * 3)).off + 1, none⟩ = some (.slice A374_1 ((rd_T74 l1 x5_1).f1.f0).length c374_1) ∧ w'.cell? ⟨(ad374.add ((x5_1).toNat * 3)).block, (ad374.add ((x5_1).toNat * 3)).off + 2, none⟩ = some (.slice A374_2 ((rd_T74 l1 x5_1).f1.f1).length c374_2)) (ds := []) L36_0 (by kernel_rfl) rfl rfl ⟨((HB.out.cell (World.block_lt_of_cell? w _ hw373_0)).trans hw373_0), ((HB.out.cell (World.block_lt_of_cell? w _ hw373_1)).trans hw373_1), ((HB.out.cell (World.block_lt_of_cell? w _ hw373_2)).trans hw373_2), ((HB.out.cell (World.block_lt_of_cell? w _ hw374_0)).trans hw374_0), ((HB.out.cell (World.block_lt_of_cell? w _ hw374_1)).trans hw374_1), ((HB.out.cell (World.block_lt_of_cell? w _ hw374_2)).trans hw374_2)⟩ (fun hHeld => ?_); refine with_tabW fullerref17_Same.tab6 fullerref17_Same.bits6 (fun HT_ HW_ => ?_)
         generalize wr.drew = w13 at HB HR373_1 HR373_2 HR374_1 HR374_2 hx373_0 hx373_1 hx373_2 hx374_0 hx374_1 hx374_2 hHeld ⊢
         refine pu_ 0 (some 18) L36_1 HT_ ?_
         refine pu_ 1 (some 19) L36_2 HT_ ?_
         refine pu_ 2 (some 20) L36_3 HT_ ?_
         refine pu_ 3 (some 21) L36_4 HT_ ?_
         refine pu_ 5 (some 23) L36_5 HT_ ?_
         refine pu_ 6 (some 24) L36_6 HT_ ?_
         refine pu_ 7 (some 25) L36_7 HT_ ?_
         refine pu_ 8 (some 26) L36_8 HT_ ?_
         refine ta_ 4 (some 22) L36_9 HT_ HW_ hHeld ?_ (hy := by rintro w' ⟨s0, s1, s2, s3, s4, s5⟩; go_simp; with_reducible rfl)
         refine ta_ 9 (some 27) L36_10 HT_ HW_ hHeld ?_ (hy := by rintro w' ⟨s0, s1, s2, s3, s4, s5⟩; go_simp; with_reducible rfl)
         refine one_ (i := 10) (N := some 28) L36_11 rfl rfl (one_of HT_.out (by kernel_rfl)) (by decide) (fun K hK => ?_)
         refine goes_ Try.func15 (by kernel_rfl) rfl #[.agg #[.slice A373_1 ((rd_T74 l0 x5_1).f1.f0).length c373_1, .slice A373_2 ((rd_T74 l0 x5_1).f1.f1).length c373_2], .agg #[.slice A374_1 ((rd_T74 l1 x5_1).f1.f0).length c374_1, .slice A374_2 ((rd_T74 l1 x5_1).f1.f1).length c374_2]] (by rfl) rfl rfl (by (try simp only [List.map_toArray, List.map_cons, List.map_nil]); first | done | rfl | (simp only [List.length_drop, List.length_take]; rfl)) ?_
         with_reducible refine (fullerref03_Same.calls k1 _ _ ((rd_T74 l0 x5_1).f1.f0) _ _ ((rd_T74 l0 x5_1).f1.f1) _ _ ((rd_T74 l1 x5_1).f1.f0) _ _ ((rd_T74 l1 x5_1).f1.f1) true _ ?side1 ?side2 ?side3 ?side4 ?side5 ?side6 ?side7 ?side8 A7.out).mono ?_
         (case side1 => exact mvC_ ((Kd.C_below HR373_1.out HB.out)))
         (case side2 => exact HC373_1.out)
         (case side3 => exact mvC_ ((Kd.C_below HR373_2.out HB.out)))
         (case side4 => exact HC373_2.out)
         (case side5 => exact mvC_ ((Kd.C_below HR374_1.out HB.out)))
         (case side6 => exact HC374_1.out)
         (case side7 => exact mvC_ ((Kd.C_below HR374_2.out HB.out)))
         (case side8 => exact HC374_2.out)
         rintro e w14 ⟨rfl, hb⟩
         refine ⟨_, rfl, ?_⟩
         replace HB := Aside0.mk (below_step (bq0_ HB.out) hb)
         (try clear hb)
         (try clear hb2)
         (try clear hk)
         (try clear hi)
         refine hK.out _ _ ⟨((HB.out.cell (World.block_lt_of_cell? w _ hw373_0)).trans hw373_0), ((HB.out.cell (World.block_lt_of_cell? w _ hw373_1)).trans hw373_1), ((HB.out.cell (World.block_lt_of_cell? w _ hw373_2)).trans hw373_2), ((HB.out.cell (World.block_lt_of_cell? w _ hw374_0)).trans hw374_0), ((HB.out.cell (World.block_lt_of_cell? w _ hw374_1)).trans hw374_1), ((HB.out.cell (World.block_lt_of_cell? w _ hw374_2)).trans hw374_2)⟩ (fun hHeld => ?_)
         clear hK K
         refine norm_ (a' := ?_) ?_ ?_
         rotate_left
         ·show Act.put _ (some 28) _ = _
          simp only [Act.put, sA_, sB_, sC_, i64_w, i32_w]
          rfl
         refine pu_ 11 (some 6) L36_12 HT_ ?_
         refine done_ (done_of HT_.out (by kernel_rfl)) ?_
         try go_wp2
         replace HB := Aside0.mk (below_drew1 HB.out)
         have p376 : 0 ≤ (x5_1 : Int) := od_
         have q376 : x5_1 < (l0.length : Int) := od_
         obtain ⟨ad376, A376_1, c376_1, A376_2, c376_2, e376, hx376_0, hx376_1, hx376_2, hl376_1, hi376_1, hl376_2, hi376_2⟩ := at_T74 HR0.out x5_1 p376 q376
         have hw376_2 := hx376_2
         have hw376_1 := hx376_1
         have hw376_0 := hx376_0
         obtain rfl : ad373 = ad376 := (by injection e376)
         replace hx376_0 := hb_ HB hx376_0
         replace hx376_1 := hb_ HB hx376_1
         replace hx376_2 := hb_ HB hx376_2
         have HR376_1 := Aside0.mk hi376_1
         have HC376_1 := Aside0.mk hl376_1
         clear hi376_1 hl376_1
         have HR376_2 := Aside0.mk hi376_2
         have HC376_2 := Aside0.mk hl376_2
         clear hi376_2 hl376_2
         replace p376 := eq_true p376
         replace q376 := eq_true q376
         have p377 : 0 ≤ (x5_1 : Int) := od_
         have q377 : x5_1 < (l1.length : Int) := od_
         obtain ⟨ad377, A377_1, c377_1, A377_2, c377_2, e377, hx377_0, hx377_1, hx377_2, hl377_1, hi377_1, hl377_2, hi377_2⟩ := at_T74 HR1.out x5_1 p377 q377
         have hw377_2 := hx377_2
         have hw377_1 := hx377_1
         have hw377_0 := hx377_0
         obtain rfl : ad374 = ad377 := (by injection e377)
         replace hx377_0 := hb_ HB hx377_0
         replace hx377_1 := hb_ HB hx377_1
         replace hx377_2 := hb_ HB hx377_2
         have HR377_1 := Aside0.mk hi377_1
         have HC377_1 := Aside0.mk hl377_1
         clear hi377_1 hl377_1
         have HR377_2 := Aside0.mk hi377_2
         have HC377_2 := Aside0.mk hl377_2
         clear hi377_2 hl377_2
         replace p377 := eq_true p377
         replace q377 := eq_true q377
         refine start_ (n := 15) (S := fun w' => w'.cell? (ad373.add ((x5_1).toNat * 3)) = some (.int .i64 ((rd_T74 l0 x5_1).f0)) ∧ w'.cell? ⟨(ad373.add ((x5_1).toNat * 3)).block, (ad373.add ((x5_1).toNat * 3)).off + 1, none⟩ = some (.slice A376_1 ((rd_T74 l0 x5_1).f1.f0).length c376_1) ∧ w'.cell? ⟨(ad373.add ((x5_1).toNat * 3)).block, (ad373.add ((x5_1).toNat * 3)).off + 2, none⟩ = some (.slice A376_2 ((rd_T74 l0 x5_1).f1.f1).length c376_2) ∧ w'.cell? (ad374.add ((x5_1).toNat * 3)) = some (.int .i64 ((rd_T74 l1 x5_1).f0)) ∧ w'.cell? ⟨(ad374.add ((x5_1).toNat * 3)).block, (ad374.add ((x5_1).toNat * 3)).off + 1, none⟩ = some (.slice A377_1 ((rd_T74 l1 x5_1).f1.f0).length c377_1) ∧ w'.cell? ⟨(ad374.add ((x5_1).toNat * 3)).block, (ad374.add ((x5_1).toNat * 3)).off + 2, none⟩ = some (.slice A377_2 ((rd_T74 l1 x5_1).f1.f1).length c377_2)) (ds := []) L36_13 (by kernel_rfl) rfl rfl ⟨((HB.out.cell (World.block_lt_of_cell? w _ hw376_0)).trans hw376_0), ((HB.out.cell (World.block_lt_of_cell? w _ hw376_1)).trans hw376_1), ((HB.out.cell (World.block_lt_of_cell? w _ hw376_2)).trans hw376_2), ((HB.out.cell (World.block_lt_of_cell? w _ hw377_0)).trans hw377_0), ((HB.out.cell (World.block_lt_of_cell? w _ hw377_1)).trans hw377_1), ((HB.out.cell (World.block_lt_of_cell? w _ hw377_2)).trans hw377_2)⟩ (fun hHeld => ?_); refine with_tabW fullerref17_Same.tab7 fullerref17_Same.bits7 (fun HT_ HW_ => ?_)
         generalize w14.drew = w15 at HB HR376_1 HR376_2 HR377_1 HR377_2 hx376_0 hx376_1 hx376_2 hx377_0 hx377_1 hx377_2 hHeld ⊢
         refine pu_ 0 (some 29) L36_14 HT_ ?_
         refine pu_ 1 (some 30) L36_15 HT_ ?_
         refine pu_ 2 (some 31) L36_16 HT_ ?_
         refine pu_ 3 (some 32) L36_17 HT_ ?_
         refine pu_ 4 (some 33) L36_18 HT_ ?_
         refine pu_ 5 (some 34) L36_19 HT_ ?_
         refine pu_ 6 (some 35) L36_20 HT_ ?_
         refine pu_ 8 (some 37) L36_21 HT_ ?_
         refine pu_ 9 (some 38) L36_22 HT_ ?_
         refine pu_ 10 (some 39) L36_23 HT_ ?_
         refine pu_ 11 (some 40) L36_24 HT_ ?_
         refine ta_ 7 (some 36) L36_25 HT_ HW_ hHeld ?_ (hy := by rintro w' ⟨s0, s1, s2, s3, s4, s5⟩; go_simp; with_reducible rfl)
         refine ta_ 12 (some 41) L36_26 HT_ HW_ hHeld ?_ (hy := by rintro w' ⟨s0, s1, s2, s3, s4, s5⟩; go_simp; with_reducible rfl)
         refine pu_ 13 (some 42) L36_27 HT_ ?_
         refine pu_ 14 (some 43) L36_28 HT_ ?_
         refine done_ (done_of HT_.out (by kernel_rfl)) ?_
         try go_wp2
         go_ret
         exact ⟨by first | rfl | (simp <;> rfl) | (simp [*] <;> rfl), bq0_ HB.out⟩
       ·replace c8 := Bool.eq_false_iff.mpr c8
        subst c8
        have H1 : (some false) = some r := by rw [if_neg (show ¬ (false = true) by decide)] at H; exact H
        clear H
        have H := H1
        clear H1
        obtain rfl := Option.some.inj H
        try go_wp2
        replace HB := Aside0.mk (below_drew1 HB.out)
        have p373 : 0 ≤ (x5_1 : Int) := od_
        have q373 : x5_1 < (l0.length : Int) := od_
        obtain ⟨ad373, A373_1, c373_1, A373_2, c373_2, e373, hx373_0, hx373_1, hx373_2, hl373_1, hi373_1, hl373_2, hi373_2⟩ := at_T74 HR0.out x5_1 p373 q373
        have hw373_2 := hx373_2
        have hw373_1 := hx373_1
        have hw373_0 := hx373_0
        cases e373
        replace hx373_0 := hb_ HB hx373_0
        replace hx373_1 := hb_ HB hx373_1
        replace hx373_2 := hb_ HB hx373_2
        have HR373_1 := Aside0.mk hi373_1
        have HC373_1 := Aside0.mk hl373_1
        clear hi373_1 hl373_1
        have HR373_2 := Aside0.mk hi373_2
        have HC373_2 := Aside0.mk hl373_2
        clear hi373_2 hl373_2
        replace p373 := eq_true p373
        replace q373 := eq_true q373
        have p374 : 0 ≤ (x5_1 : Int) := od_
        have q374 : x5_1 < (l1.length : Int) := od_
        obtain ⟨ad374, A374_1, c374_1, A374_2, c374_2, e374, hx374_0, hx374_1, hx374_2, hl374_1, hi374_1, hl374_2, hi374_2⟩ := at_T74 HR1.out x5_1 p374 q374
        have hw374_2 := hx374_2
        have hw374_1 := hx374_1
        have hw374_0 := hx374_0
        cases e374
        replace hx374_0 := hb_ HB hx374_0
        replace hx374_1 := hb_ HB hx374_1
        replace hx374_2 := hb_ HB hx374_2
        have HR374_1 := Aside0.mk hi374_1
        have HC374_1 := Aside0.mk hl374_1
        clear hi374_1 hl374_1
        have HR374_2 := Aside0.mk hi374_2
        have HC374_2 := Aside0.mk hl374_2
        clear hi374_2 hl374_2
        replace p374 := eq_true p374
        replace q374 := eq_true q374
        refine start_ (n := 12) (S := fun w' => w'.cell? (ad373.add ((x5_1).toNat * 3)) = some (.int .i64 ((rd_T74 l0 x5_1).f0)) ∧ w'.cell? ⟨(ad373.add ((x5_1).toNat * 3)).block, (ad373.add ((x5_1).toNat * 3)).off + 1, none⟩ = some (.slice A373_1 ((rd_T74 l0 x5_1).f1.f0).length c373_1) ∧ w'.cell? ⟨(ad373.add ((x5_1).toNat * 3)).block, (ad373.add ((x5_1).toNat * 3)).off + 2, none⟩ = some (.slice A373_2 ((rd_T74 l0 x5_1).f1.f1).length c373_2) ∧ w'.cell? (ad374.add ((x5_1).toNat * 3)) = some (.int .i64 ((rd_T74 l1 x5_1).f0)) ∧ w'.cell? ⟨(ad374.add ((x5_1).toNat * 3)).block, (ad374.add ((x5_1).toNat * 3)).off + 1, none⟩ = some (.slice A374_1 ((rd_T74 l1 x5_1).f1.f0).length c374_1) ∧ w'.cell? ⟨(ad374.add ((x5_1).toNat * 3)).block, (ad374.add ((x5_1).toNat * 3)).off + 2, none⟩ = some (.slice A374_2 ((rd_T74 l1 x5_1).f1.f1).length c374_2)) (ds := []) L36_0 (by kernel_rfl) rfl rfl ⟨((HB.out.cell (World.block_lt_of_cell? w _ hw373_0)).trans hw373_0), ((HB.out.cell (World.block_lt_of_cell? w _ hw373_1)).trans hw373_1), ((HB.out.cell (World.block_lt_of_cell? w _ hw373_2)).trans hw373_2), ((HB.out.cell (World.block_lt_of_cell? w _ hw374_0)).trans hw374_0), ((HB.out.cell (World.block_lt_of_cell? w _ hw374_1)).trans hw374_1), ((HB.out.cell (World.block_lt_of_cell? w _ hw374_2)).trans hw374_2)⟩ (fun hHeld => ?_); refine with_tabW fullerref17_Same.tab6 fullerref17_Same.bits6 (fun HT_ HW_ => ?_)
        generalize wr.drew = w16 at HB HR373_1 HR373_2 HR374_1 HR374_2 hx373_0 hx373_1 hx373_2 hx374_0 hx374_1 hx374_2 hHeld ⊢
        refine pu_ 0 (some 18) L36_1 HT_ ?_
        refine pu_ 1 (some 19) L36_2 HT_ ?_
        refine pu_ 2 (some 20) L36_3 HT_ ?_
        refine pu_ 3 (some 21) L36_4 HT_ ?_
        refine pu_ 5 (some 23) L36_5 HT_ ?_
        refine pu_ 6 (some 24) L36_6 HT_ ?_
        refine pu_ 7 (some 25) L36_7 HT_ ?_
        refine pu_ 8 (some 26) L36_8 HT_ ?_
        refine ta_ 4 (some 22) L36_9 HT_ HW_ hHeld ?_ (hy := by rintro w' ⟨s0, s1, s2, s3, s4, s5⟩; go_simp; with_reducible rfl)
        refine ta_ 9 (some 27) L36_10 HT_ HW_ hHeld ?_ (hy := by rintro w' ⟨s0, s1, s2, s3, s4, s5⟩; go_simp; with_reducible rfl)
        refine one_ (i := 10) (N := some 28) L36_11 rfl rfl (one_of HT_.out (by kernel_rfl)) (by decide) (fun K hK => ?_)
        refine goes_ Try.func15 (by kernel_rfl) rfl #[.agg #[.slice A373_1 ((rd_T74 l0 x5_1).f1.f0).length c373_1, .slice A373_2 ((rd_T74 l0 x5_1).f1.f1).length c373_2], .agg #[.slice A374_1 ((rd_T74 l1 x5_1).f1.f0).length c374_1, .slice A374_2 ((rd_T74 l1 x5_1).f1.f1).length c374_2]] (by rfl) rfl rfl (by (try simp only [List.map_toArray, List.map_cons, List.map_nil]); first | done | rfl | (simp only [List.length_drop, List.length_take]; rfl)) ?_
        with_reducible refine (fullerref03_Same.calls k1 _ _ ((rd_T74 l0 x5_1).f1.f0) _ _ ((rd_T74 l0 x5_1).f1.f1) _ _ ((rd_T74 l1 x5_1).f1.f0) _ _ ((rd_T74 l1 x5_1).f1.f1) false _ ?side1 ?side2 ?side3 ?side4 ?side5 ?side6 ?side7 ?side8 A7.out).mono ?_
        (case side1 => exact mvC_ ((Kd.C_below HR373_1.out HB.out)))
        (case side2 => exact HC373_1.out)
        (case side3 => exact mvC_ ((Kd.C_below HR373_2.out HB.out)))
        (case side4 => exact HC373_2.out)
        (case side5 => exact mvC_ ((Kd.C_below HR374_1.out HB.out)))
        (case side6 => exact HC374_1.out)
        (case side7 => exact mvC_ ((Kd.C_below HR374_2.out HB.out)))
        (case side8 => exact HC374_2.out)
        rintro e w17 ⟨rfl, hb⟩
        refine ⟨_, rfl, ?_⟩
        replace HB := Aside0.mk (below_step (bq0_ HB.out) hb)
        (try clear hb)
        (try clear hb2)
        (try clear hk)
        (try clear hi)
        refine hK.out _ _ ⟨((HB.out.cell (World.block_lt_of_cell? w _ hw373_0)).trans hw373_0), ((HB.out.cell (World.block_lt_of_cell? w _ hw373_1)).trans hw373_1), ((HB.out.cell (World.block_lt_of_cell? w _ hw373_2)).trans hw373_2), ((HB.out.cell (World.block_lt_of_cell? w _ hw374_0)).trans hw374_0), ((HB.out.cell (World.block_lt_of_cell? w _ hw374_1)).trans hw374_1), ((HB.out.cell (World.block_lt_of_cell? w _ hw374_2)).trans hw374_2)⟩ (fun hHeld => ?_)
        clear hK K
        refine norm_ (a' := ?_) ?_ ?_
        rotate_left
        ·show Act.put _ (some 28) _ = _
         simp only [Act.put, sA_, sB_, sC_, i64_w, i32_w]
         rfl
        refine pu_ 11 (some 6) L36_12 HT_ ?_
        refine done_ (done_of HT_.out (by kernel_rfl)) ?_
        try go_wp2
        replace HB := Aside0.mk (below_drew1 HB.out)
        refine start_ (n := 15) (S := fun w' => True) (ds := []) L36_13 (by kernel_rfl) rfl rfl trivial (fun hHeld => ?_); refine with_tabW fullerref17_Same.tab7 fullerref17_Same.bits7 (fun HT_ HW_ => ?_)
        generalize w17.drew = w18 at HB hHeld ⊢
        refine pu_ 0 (some 29) L36_14 HT_ ?_
        refine pu_ 1 (some 30) L36_15 HT_ ?_
        refine pu_ 2 (some 31) L36_16 HT_ ?_
        refine skips_ (fuel := 1) (m := 12) HT_.out (fun _ _ _ _ _ h => h) [(3, 32), (4, 33), (5, 34), (6, 35), (7, 36), (8, 37), (9, 38), (10, 39), (11, 40), (12, 41), (13, 42)] L36_27 rfl (by kernel_rfl) (by kernel_rfl) (a' := ?_) ?_ ?_
        rotate_left
        ·simp only [putU, Act.put, sA_, sB_, sC_]
         rfl
        refine pu_ 14 (some 43) L36_28 HT_ ?_
        refine done_ (done_of HT_.out (by kernel_rfl)) ?_
        try go_wp2
        go_ret
        exact ⟨by first | rfl | (simp <;> rfl) | (simp [*] <;> rfl), bq0_ HB.out⟩
      ·rw [if_neg c6] at H
       exact absurd H (by simp)
     ·rw [if_neg c5] at H
      exact absurd H (by simp)
    ·rw [if_neg c4] at H
     have c4b0 : decide (x5_1 < (l0.length : Int)) = false := decide_eq_false c4
     clear c4
     obtain rfl := Option.some.inj H
     go_wp2
     go_ret
     exact ⟨by first | rfl | (simp <;> rfl) | (simp [*] <;> rfl), bq0_ HB.out⟩
 ·rw [if_neg c3] at H
  have c3b0 : ((l0.length : Int) == (l1.length : Int)) = false := beq_eq_false_iff_ne.mpr c3
  have c3b1 : ((l0.length : Int) != (l1.length : Int)) = true := bne_iff_ne.mpr c3
  have c3b2 : (l0.length == l1.length) = false := by first | simpa using c3 | (simp at c3 ⊢; omega)
  obtain rfl := Option.some.inj H
  go_enter Try.func36, Try.ntmps36
  go_wp2
  go_ret
  exact ⟨by first | rfl | (simp <;> rfl) | (simp [*] <;> rfl), bq0_ HB.out⟩
end Go.Proofs.Ytmolbbebglfhmaa.A
