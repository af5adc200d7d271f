/- Lean functions that answer as the Go functions do, and the proofs that they do; no conditions. Written by this session's own driver: a scratch copy of the kit's print with the session's additions (wip/xprint). -/
import Derived.Test.YtmolbbebglfhmaaAx0
import Derived.Test.YtmolbbebglfhmaaAx3
import Derived.Test.YtmolbbebglfhmaaAx6
import Derived.Test.YtmolbbebglfhmaaAx7
import Derived.Test.YtmolbbebglfhmaaAx10
import Derived.Test.YtmolbbebglfhmaaAx11
import Derived.Test.YtmolbbebglfhmaaAx13
namespace Go.Proofs.Ytmolbbebglfhmaa.A
open Go.RowKit Go.Proofs.YtmolbbebglfhmaaW.PrintWords Go.Proofs.YtmolbbebglfhmaaW.PrintLast Go.Proofs.YtmolbbebglfhmaaW.PrintMore
attribute [local go_sem] max2_int min2_int max_two min_two max_three min_three max_four min_four
set_option linter.unusedVariables false
set_option linter.unusedSimpArgs false
def L3_0 : Array Bool := #[false, false, false, false, false, false, false, false, false, false, false, false, false, false, false, false, false, false, false]
def L3_1 : Array Bool := #[true, false, false, false, false, false, false, false, false, false, false, false, false, false, false, false, false, false, false]
def L3_2 : Array Bool := #[true, true, false, false, false, false, false, false, false, false, false, false, false, false, false, false, false, false, false]
def L3_3 : Array Bool := #[true, true, true, false, false, false, false, false, false, false, false, false, false, false, false, false, false, false, false]
def L3_4 : Array Bool := #[true, true, true, true, false, false, false, false, false, false, false, false, false, false, false, false, false, false, false]
def L3_5 : Array Bool := #[true, true, true, true, true, false, false, false, false, false, false, false, false, false, false, false, false, false, false]
def L3_6 : Array Bool := #[true, true, true, true, true, true, false, false, false, false, false, false, false, false, false, false, false, false, false]
def L3_7 : Array Bool := #[true, true, true, true, true, true, true, false, false, false, false, false, false, false, false, false, false, false, false]
def L3_8 : Array Bool := #[true, true, true, true, true, true, true, true, false, false, false, false, false, false, false, false, false, false, false]
def L3_9 : Array Bool := #[true, true, true, true, true, true, true, true, true, false, false, false, false, false, false, false, false, false, false]
def L3_10 : Array Bool := #[true, true, true, true, true, true, true, true, true, true, false, false, false, false, false, false, false, false, false]
def L3_11 : Array Bool := #[true, true, true, true, true, true, true, true, true, true, true, false, false, false, false, false, false, false, false]
def L3_12 : Array Bool := #[true, true, true, true, true, true, true, true, true, true, true, true, false, false, false, false, false, false, false]
def L3_13 : Array Bool := #[true, true, true, true, true, true, true, true, true, true, true, true, true, false, false, false, false, false, false]
def L3_14 : Array Bool := #[true, true, true, true, true, true, true, true, true, true, true, true, true, true, false, false, false, false, false]
def L3_15 : Array Bool := #[true, true, true, true, true, true, true, true, true, true, true, true, true, true, true, false, false, false, false]
def L3_16 : Array Bool := #[true, true, true, true, true, true, true, true, true, true, true, true, true, true, true, true, false, false, false]
def L3_17 : Array Bool := #[true, true, true, true, true, true, true, true, true, true, true, true, true, true, true, true, true, false, false]
def L3_18 : Array Bool := #[true, true, true, true, true, true, true, true, true, true, true, true, true, true, true, true, true, true, false]
def L3_19 : Array Bool := #[true, true, true, true, true, true, true, true, true, true, true, true, true, true, true, true, true, true, true]
mutual
def fullerlaw18_StoreCommits.j0 : Nat → Int → List Int → List (S42) → Bool → Bool → List (List (S74)) → Int → List Int → Option (Bool)
 | 0, _, _, _, _, _, _, _, _ => none
 | k + 1, x1, x2, x3, x9, x38, x386000, x386001, x386002 => if x38 = true then (some x9) else ((store_Commit.f k x386000 x386001 x386002 x1 x2 x3).bind fun bt390 => ((store_All.f k x386000 x386001 x386002 x386001).bind fun t399 => (if bt390.2.2.2 = 0 then ((store_All.f k bt390.1 bt390.2.1 bt390.2.2.1 bt390.2.1).bind fun t403 => (if (t403.length : Int) = 8 then (if (t399.length : Int) = 8 then (fullerlaw18_StoreCommits.j1 k x1 x2 x3 x9 t399 t403 (bt390.2.1 != (wrap64 (x386001 + 1))) x386000 x386001 x386002) else (fullerlaw18_StoreCommits.j1 k x1 x2 x3 x9 t399 t403 true x386000 x386001 x386002)) else (fullerlaw18_StoreCommits.j1 k x1 x2 x3 x9 t399 t403 true x386000 x386001 x386002))) else (if x9 = true then ((fullerref18_Same.f k bt390.1 bt390.2.1 bt390.2.2.1 x386000 x386001 x386002).bind fun t402 => (some t402)) else (some false)))))
def fullerlaw18_StoreCommits.j1 : Nat → Int → List Int → List (S42) → Bool → List (S37) → List (S37) → Bool → List (List (S74)) → Int → List Int → Option (Bool)
 | 0, _, _, _, _, _, _, _, _, _, _ => none
 | k + 1, x1, x2, x3, x9, x12, x13, x79, x386000, x386001, x386002 => if x79 = true then (some false) else (fullerlaw18_StoreCommits.l0 k x1 x2 x3 x9 x12 x13 0 x386000 x386001 x386002)
def fullerlaw18_StoreCommits.l0 : Nat → Int → List Int → List (S42) → Bool → List (S37) → List (S37) → Int → List (List (S74)) → Int → List Int → Option (Bool)
 | 0, _, _, _, _, _, _, _, _, _, _ => none
 | k + 1, x1, x2, x3, x9, x12, x13, x14, x386000, x386001, x386002 => if x14 < 8 then (if 0 ≤ x14 then (if x14 < (x12.length : Int) then ((store_Read.f k x386000 x386001 x386002 x14 x1).bind fun bt409 => ((fullerref10_In.f k x2 x14).bind fun t417 => (fullerlaw18_StoreCommits.l1 k x1 x2 x3 x9 x12 x13 x14 t417 0 x386000 x386001 x386002 ((rd_T37 x12 x14).f0) ((rd_T37 x12 x14).f1) bt409.1 bt409.2.1))) else (none)) else (none)) else (if x9 = true then ((fullerref10_In.f k x386002 x1).bind fun t406 => (some t406)) else (some false))
def fullerlaw18_StoreCommits.l1 : Nat → Int → List Int → List (S42) → Bool → List (S37) → List (S37) → Int → Bool → Int → List (List (S74)) → Int → List Int → List Int → List Int → List Int → List Int → Option (Bool)
 | 0, _, _, _, _, _, _, _, _, _, _, _, _, _, _, _, _ => none
 | k + 1, x1, x2, x3, x9, x12, x13, x14, x18, x19, x386000, x386001, x386002, x409000, x409001, x417000, x417001 => if x19 < (x3.length : Int) then (if 0 ≤ x19 then (if ((rd_T42 x3 x19).f0) = x14 then (fullerlaw18_StoreCommits.l1 k x1 x2 x3 x9 x12 x13 x14 true (wrap64 (x19 + 1)) x386000 x386001 x386002 ((rd_T42 x3 x19).f1.f0) ((rd_T42 x3 x19).f1.f1) x417000 x417001) else (fullerlaw18_StoreCommits.l1 k x1 x2 x3 x9 x12 x13 x14 x18 (wrap64 (x19 + 1)) x386000 x386001 x386002 x409000 x409001 x417000 x417001)) else (none)) else (if 0 ≤ x14 then (if x14 < (x13.length : Int) then ((fullerref03_Same.f k ((rd_T37 x13 x14).f0) ((rd_T37 x13 x14).f1) x409000 x409001).bind fun t421 => (if t421 = true then (if x18 = true then (if x14 < (x12.length : Int) then ((fullerref03_Same.f k ((rd_T37 x12 x14).f0) ((rd_T37 x12 x14).f1) x417000 x417001).bind fun t423 => (fullerlaw18_StoreCommits.j4 k x1 x2 x3 x9 x12 x13 x14 (!t423) x386000 x386001 x386002)) else (none)) else (fullerlaw18_StoreCommits.j4 k x1 x2 x3 x9 x12 x13 x14 false x386000 x386001 x386002)) else (fullerlaw18_StoreCommits.j4 k x1 x2 x3 x9 x12 x13 x14 true x386000 x386001 x386002))) else (none)) else (none))
def fullerlaw18_StoreCommits.j4 : Nat → Int → List Int → List (S42) → Bool → List (S37) → List (S37) → Int → Bool → List (List (S74)) → Int → List Int → Option (Bool)
 | 0, _, _, _, _, _, _, _, _, _, _, _ => none
 | k + 1, x1, x2, x3, x9, x12, x13, x14, x134, x386000, x386001, x386002 => if x134 = true then (some false) else (fullerlaw18_StoreCommits.l0 k x1 x2 x3 x9 x12 x13 (wrap64 (x14 + 1)) x386000 x386001 x386002)
end
def fullerlaw18_StoreCommits.f (k : Nat) (l0_0 : List (List (S74))) (a0_1 : Int) (l0_2 : List Int) (a1 : Int) (l2 : List Int) (l3 : List (S42)) : Option (Bool) := (fullerlaw18_awake.f k).bind fun t386 => ((fullerref18_Few.f k l0_0 a0_1 l0_2).bind fun t387 => (if t387 = true then (if (l2.length : Int) > 20 then (fullerlaw18_StoreCommits.j0 k a1 l2 l3 t386 true l0_0 a0_1 l0_2) else ((fullerref18_Writes.f k l3 20).bind fun t388 => (if t388 = true then ((store_Check.f k l0_0 a0_1 l0_2).bind fun t389 => (fullerlaw18_StoreCommits.j0 k a1 l2 l3 t386 (!t389) l0_0 a0_1 l0_2)) else (fullerlaw18_StoreCommits.j0 k a1 l2 l3 t386 true l0_0 a0_1 l0_2)))) else (fullerlaw18_StoreCommits.j0 k a1 l2 l3 t386 true l0_0 a0_1 l0_2)))
def fullerlaw18_StoreCommits.T23 : Bool × List (List Nat × List Nat) := (true, [([], []), ([], []), ([0, 1], [0, 1]), ([2], [2]), ([], []), ([3, 4], [3, 4]), ([5], [5]), ([6, 5], [6]), ([7], [7]), ([8, 7, 7], [7, 8]), ([9], [9]), ([9], [9]), ([10, 11, 9], [9, 10, 11]), ([12, 9], [9, 12]), ([9], [9]), ([13, 14, 9, 9], [9, 13, 14]), ([15, 9], [9, 15]), ([9, 16, 7], [7, 9, 16]), ([7, 17], [7, 17])])
def fullerlaw18_StoreCommits.B23 : List Nat := [0, 0, 3, 7, 0, 31, 63, 127, 255, 511, 1023, 1023, 4095, 8191, 1023, 32767, 65535, 131071, 262143]
theorem fullerlaw18_StoreCommits.tab23 : rtab .any (opsOf Try.f3 23) = fullerlaw18_StoreCommits.T23 := by kernel_rfl
theorem fullerlaw18_StoreCommits.bits23 : waitsOk fullerlaw18_StoreCommits.T23.2 fullerlaw18_StoreCommits.B23 = true := by kernel_rfl
set_option maxHeartbeats 8000000 in
set_option maxRecDepth 100000 in
theorem fullerlaw18_StoreCommits.calls (k : Nat) (P0_0_ : Nat → Prop) (A0_0 : Option Addr) (c0_0 : Nat) (l0_0 : List (List (S74))) (a0_1 : Int) (P0_2_ : Nat → Prop) (A0_2 : Option Addr) (c0_2 : Nat) (l0_2 : List Int) (a1 : Int) (A2 : Option Addr) (c2 : Nat) (l2 : List Int) (P3_ : Nat → Prop) (A3 : Option Addr) (c3 : Nat) (l3 : List (S42)) (r : Bool) (w : World) (hs0_0 : Kd.V (Kd.slice 74 k74) 54 w w.heap.size (fun k_ => P0_0_ k_) (.slice A0_0 l0_0.length c0_0) l0_0) (hs0_2 : Kd.V (Kd.int .i64) 3 w w.heap.size (fun k_ => P0_2_ k_) (.slice A0_2 l0_2.length c0_2) l0_2) (hr2 : Kd.C (Kd.int .i64) w A2 l2.length l2) (hc2 : l2.length ≤ c2) (hs3 : Kd.V k42 42 w w.heap.size (fun k_ => P3_ k_) (.slice A3 l3.length c3) l3) (h : fullerlaw18_StoreCommits.f k l0_0 a0_1 l0_2 a1 l2 l3 = some r) :
  Calls Try.prog 3 #[.agg #[.slice A0_0 l0_0.length c0_0, .int .i64 a0_1, .slice A0_2 l0_2.length c0_2], .int .i64 a1, .slice A2 l2.length c2, .slice A3 l3.length c3] w fun e w' => e = .returned (.bool r) ∧ Below w.heap.size w w' := by
 have hu25 := Try.underlying25
 have hu37 := Try.underlying37
 have HO0_0 := Aside0.mk (show Kd.V (Kd.slice 74 k74) 54 w w.heap.size (fun k_ => ((P0_0_ k_ ∨ P0_2_ k_ ∨ P3_ k_) ∨ w.heap.size ≤ k_)) (.slice A0_0 l0_0.length c0_0) l0_0 from Kd.V_mono hs0_0 (fun k_ hk => .inl (.inl hk)))
 have HO0_2 := Aside0.mk (show Kd.V (Kd.int .i64) 3 w w.heap.size (fun k_ => ((P0_0_ k_ ∨ P0_2_ k_ ∨ P3_ k_) ∨ w.heap.size ≤ k_)) (.slice A0_2 l0_2.length c0_2) l0_2 from Kd.V_mono hs0_2 (fun k_ hk => .inl (.inr (.inl hk))))
 have HR2 := Aside0.mk hr2
 have HC2 := Aside0.mk hc2
 clear hr2 hc2
 have HO3 := Aside0.mk (show Kd.V k42 42 w w.heap.size (fun k_ => ((P0_0_ k_ ∨ P0_2_ k_ ∨ P3_ k_) ∨ w.heap.size ≤ k_)) (.slice A3 l3.length c3) l3 from Kd.V_mono hs3 (fun k_ hk => .inl (.inr (.inr hk))))
 have HB := Aside0.mk (Below.refl w.heap.size w)
 have H : ((fullerlaw18_awake.f k).bind fun t386 => ((fullerref18_Few.f k l0_0 a0_1 l0_2).bind fun t387 => (if t387 = true then (if (l2.length : Int) > 20 then (fullerlaw18_StoreCommits.j0 k a1 l2 l3 t386 true l0_0 a0_1 l0_2) else ((fullerref18_Writes.f k l3 20).bind fun t388 => (if t388 = true then ((store_Check.f k l0_0 a0_1 l0_2).bind fun t389 => (fullerlaw18_StoreCommits.j0 k a1 l2 l3 t386 (!t389) l0_0 a0_1 l0_2)) else (fullerlaw18_StoreCommits.j0 k a1 l2 l3 t386 true l0_0 a0_1 l0_2)))) else (fullerlaw18_StoreCommits.j0 k a1 l2 l3 t386 true l0_0 a0_1 l0_2)))) = some r := h
 clear h
 replace H := Option.bind_eq_some_iff.mp H
 obtain ⟨t386, A50, H⟩ := H
 replace H : ((fullerref18_Few.f k l0_0 a0_1 l0_2).bind fun t387 => (if t387 = true then (if (l2.length : Int) > 20 then (fullerlaw18_StoreCommits.j0 k a1 l2 l3 t386 true l0_0 a0_1 l0_2) else ((fullerref18_Writes.f k l3 20).bind fun t388 => (if t388 = true then ((store_Check.f k l0_0 a0_1 l0_2).bind fun t389 => (fullerlaw18_StoreCommits.j0 k a1 l2 l3 t386 (!t389) l0_0 a0_1 l0_2)) else (fullerlaw18_StoreCommits.j0 k a1 l2 l3 t386 true l0_0 a0_1 l0_2)))) else (fullerlaw18_StoreCommits.j0 k a1 l2 l3 t386 true l0_0 a0_1 l0_2))) = some r := H
 have A5 := Aside0.mk A50
 clear A50
 have HC6 := Aside0.mk H
 clear H
 go_enter Try.func3, Try.ntmps3
 go_upto_region 2 with (first | ((with_reducible refine gate_dst (N := 4) rfl ?_); (try (refine gate_guard (by rfl) ?_; dsimp only)); refine box_event ?hg (N := 4) ?hd (cs := #[.slice A0_0 l0_0.length c0_0, .int .i64 a0_1, .slice A0_2 l0_2.length c0_2]) (t := 25) ?hr ?_; (case hd => rfl); (case hg => rfl); (case hr => first | (go_simp; done) | (go_simp; rfl)); intro gb385 hg w7 hbox hb; have BK385 := Aside0.mk (hbox); have GW385 := Aside0.mk ((by rw [hg]; exact (below_size (bq0_ HB.out)) : w.heap.size ≤ gb385)); have GE385 := Aside0.mk ((by rw [hg]; exact (below_size (bq0_ HB.out)) : w.heap.size ≤ gb385)); replace HO0_0 := Aside0.mk (Kd.V_below (Kd.V_elderB (mvV_ HO0_0.out) gb385 (Nat.le_of_eq hg.symm)) hb); replace HO0_2 := Aside0.mk (Kd.V_below (Kd.V_elderB (mvV_ HO0_2.out) gb385 (Nat.le_of_eq hg.symm)) hb); replace HO3 := Aside0.mk (Kd.V_below (Kd.V_elderB (mvV_ HO3.out) gb385 (Nat.le_of_eq hg.symm)) hb); replace HB := Aside0.mk (below_step (bq0_ HB.out) hb); clear hb hbox hg) | ((with_reducible refine gate_callee (f := 6) rfl ?_); refine gL_ (some 20) Try.func6 #[] ?_; (with_reducible refine (fullerlaw18_awake.calls k  t386 _ A5.out).mono ?_); rintro e w8 ⟨rfl, hb⟩; refine ⟨_, rfl, ?_⟩; replace HO0_0 := mbV_ HO0_0.out hb; replace HO0_2 := mbV_ HO0_2.out hb; replace HO3 := mbV_ HO3.out hb; replace BK385 := mvB_ BK385.out hb; replace HB := Aside0.mk (below_step (bq1_ HB.out GE385.out) hb); (try clear hb)))
 (try simp only [Act.put, sA_, sB_, sC_])
 go_cut [38] (fun v38 wc => ∃ (kq : Nat) (x38_5 : Bool), v38 = .bool x38_5 ∧ Aside0 (fullerlaw18_StoreCommits.j0 kq a1 l2 l3 t386 x38_5 l0_0 a0_1 l0_2 = some r) ∧ Aside0 (kq ≤ k) ∧ Aside0 (Kd.V k42 42 wc w.heap.size (fun k_ => ((P0_0_ k_ ∨ P0_2_ k_ ∨ P3_ k_) ∨ w.heap.size ≤ k_) ∧ k_ ≠ gb385) (.slice A3 l3.length c3) l3) ∧ Aside0 (Kd.V (Kd.slice 74 k74) 54 wc w.heap.size (fun k_ => ((P0_0_ k_ ∨ P0_2_ k_ ∨ P3_ k_) ∨ w.heap.size ≤ k_) ∧ k_ ≠ gb385) (.slice A0_0 l0_0.length c0_0) l0_0) ∧ Aside0 (Kd.V (Kd.int .i64) 3 wc w.heap.size (fun k_ => ((P0_0_ k_ ∨ P0_2_ k_ ∨ P3_ k_) ∨ w.heap.size ≤ k_) ∧ k_ ≠ gb385) (.slice A0_2 l0_2.length c0_2) l0_2) ∧ Aside0 (wc.heap[gb385]? = some (.cells #[(.slice A0_0 l0_0.length c0_0), .int .i64 a0_1, (.slice A0_2 l0_2.length c0_2)] 25 (0, 0))) ∧ Aside0 (Below w.heap.size w wc))
 case first =>
  have H := HC6.out
  clear HC6
  replace H := Option.bind_eq_some_iff.mp H
  obtain ⟨t387, A90, H⟩ := H
  replace H : (if t387 = true then (if (l2.length : Int) > 20 then (fullerlaw18_StoreCommits.j0 k a1 l2 l3 t386 true l0_0 a0_1 l0_2) else ((fullerref18_Writes.f k l3 20).bind fun t388 => (if t388 = true then ((store_Check.f k l0_0 a0_1 l0_2).bind fun t389 => (fullerlaw18_StoreCommits.j0 k a1 l2 l3 t386 (!t389) l0_0 a0_1 l0_2)) else (fullerlaw18_StoreCommits.j0 k a1 l2 l3 t386 true l0_0 a0_1 l0_2)))) else (fullerlaw18_StoreCommits.j0 k a1 l2 l3 t386 true l0_0 a0_1 l0_2)) = some r := H
  have A9 := Aside0.mk A90
  clear A90
  by_cases c10 : t387 = true
  ·subst c10
   have H1 : (if (l2.length : Int) > 20 then (fullerlaw18_StoreCommits.j0 k a1 l2 l3 t386 true l0_0 a0_1 l0_2) else ((fullerref18_Writes.f k l3 20).bind fun t388 => (if t388 = true then ((store_Check.f k l0_0 a0_1 l0_2).bind fun t389 => (fullerlaw18_StoreCommits.j0 k a1 l2 l3 t386 (!t389) l0_0 a0_1 l0_2)) else (fullerlaw18_StoreCommits.j0 k a1 l2 l3 t386 true l0_0 a0_1 l0_2)))) = some r := by rw [if_pos rfl] at H; exact H
   clear H
   have H := H1
   clear H1
   by_cases c11 : (l2.length : Int) > 20
   ·rw [if_pos c11] at H
    have c11b0 : decide (20 < (l2.length : Int)) = true := decide_eq_true c11
    have c11b1 : decide (20 < l2.length) = true := decide_eq_true (by omega)
    clear c11
    (first | rw [c11b0] | (simp only [i64_w, i32_w]; rw [c11b0]) | rw [c11b1] | skip)
    have H' := Aside0.mk H
    clear H
    have hcz12_0 := cz0_ BK385.out
    have hcz12_1 := cz1_ BK385.out
    have hcz12_2 := cz2_ BK385.out
    have hfz12_0 := blk_frozen BK385.out 0
    have hfz12_1 := blk_frozen BK385.out 1
    have hfz12_2 := blk_frozen BK385.out 2
    go_wp2_with (first | ((with_reducible refine gate_callee (f := 7) rfl ?_); refine gL_ (some 22) Try.func7 #[.agg #[.slice A0_0 l0_0.length c0_0, .int .i64 a0_1, .slice A0_2 l0_2.length c0_2]] ?_; (with_reducible refine (fullerref18_Few.calls k _ _ l0_0 a0_1 _ _ l0_2 true _ ?side1 ?side2 ?side3 ?side4 A9.out).mono ?_); (case side1 => exact mvC_ ((Kd.V_reads' HO0_0.out).2.2)); (case side2 => exact (Kd.V_reads' HO0_0.out).2.1); (case side3 => exact mvC_ ((Kd.V_reads' HO0_2.out).2.2)); (case side4 => exact (Kd.V_reads' HO0_2.out).2.1); rintro e w13 ⟨rfl, hb⟩; refine ⟨_, rfl, ?_⟩; replace HO0_0 := mbV_ HO0_0.out hb; replace HO0_2 := mbV_ HO0_2.out hb; replace HO3 := mbV_ HO3.out hb; replace BK385 := mvB_ BK385.out hb; replace HB := Aside0.mk (below_step (bq1_ HB.out GE385.out) hb); (try clear hb)))
    go_meet
    case rel => exact ⟨_, (true), (by first | rfl | (simp; done) | (simp [*]; done)), H', ⟨by first | omega | exact Nat.le_refl _⟩, ⟨mvV_ HO3.out⟩, ⟨mvV_ HO0_0.out⟩, ⟨mvV_ HO0_2.out⟩, ⟨by (with_reducible repeat (first | refine blk_drewN ?_ _ | refine blk_drew ?_ | refine blk_alloc ?_ _)); exact BK385.out⟩, ⟨bq1_ HB.out GE385.out⟩⟩
   ·rw [if_neg c11] at H
    have c11b0 : decide (20 < (l2.length : Int)) = false := decide_eq_false c11
    have c11b1 : decide (20 < l2.length) = false := decide_eq_false (by omega)
    clear c11
    (first | rw [c11b0] | (simp only [i64_w, i32_w]; rw [c11b0]) | rw [c11b1] | skip)
    replace H := Option.bind_eq_some_iff.mp H
    obtain ⟨t388, A140, H⟩ := H
    replace H : (if t388 = true then ((store_Check.f k l0_0 a0_1 l0_2).bind fun t389 => (fullerlaw18_StoreCommits.j0 k a1 l2 l3 t386 (!t389) l0_0 a0_1 l0_2)) else (fullerlaw18_StoreCommits.j0 k a1 l2 l3 t386 true l0_0 a0_1 l0_2)) = some r := H
    have A14 := Aside0.mk A140
    clear A140
    by_cases c15 : t388 = true
    ·subst c15
     have H1 : ((store_Check.f k l0_0 a0_1 l0_2).bind fun t389 => (fullerlaw18_StoreCommits.j0 k a1 l2 l3 t386 (!t389) l0_0 a0_1 l0_2)) = some r := by rw [if_pos rfl] at H; exact H
     clear H
     have H := H1
     clear H1
     replace H := Option.bind_eq_some_iff.mp H
     obtain ⟨t389, A160, H⟩ := H
     replace H : (fullerlaw18_StoreCommits.j0 k a1 l2 l3 t386 (!t389) l0_0 a0_1 l0_2) = some r := H
     have A16 := Aside0.mk A160
     clear A160
     have H' := Aside0.mk H
     clear H
     have hcz17_0 := cz0_ BK385.out
     have hcz17_1 := cz1_ BK385.out
     have hcz17_2 := cz2_ BK385.out
     have hfz17_0 := blk_frozen BK385.out 0
     have hfz17_1 := blk_frozen BK385.out 1
     have hfz17_2 := blk_frozen BK385.out 2
     go_wp2_with (first | ((with_reducible refine gate_callee (f := 7) rfl ?_); refine gL_ (some 22) Try.func7 #[.agg #[.slice A0_0 l0_0.length c0_0, .int .i64 a0_1, .slice A0_2 l0_2.length c0_2]] ?_; (with_reducible refine (fullerref18_Few.calls k _ _ l0_0 a0_1 _ _ l0_2 true _ ?side1 ?side2 ?side3 ?side4 A9.out).mono ?_); (case side1 => exact mvC_ ((Kd.V_reads' HO0_0.out).2.2)); (case side2 => exact (Kd.V_reads' HO0_0.out).2.1); (case side3 => exact mvC_ ((Kd.V_reads' HO0_2.out).2.2)); (case side4 => exact (Kd.V_reads' HO0_2.out).2.1); rintro e w18 ⟨rfl, hb⟩; refine ⟨_, rfl, ?_⟩; replace HO0_0 := mbV_ HO0_0.out hb; replace HO0_2 := mbV_ HO0_2.out hb; replace HO3 := mbV_ HO3.out hb; replace BK385 := mvB_ BK385.out hb; replace HB := Aside0.mk (below_step (bq1_ HB.out GE385.out) hb); (try clear hb)) | (go_at_call 8; (with_reducible refine (fullerref18_Writes.calls k _ _ l3 20 true _ ?side1 ?side2 A14.out).mono ?_); (case side1 => exact mvC_ ((Kd.V_reads' HO3.out).2.2)); (case side2 => exact (Kd.V_reads' HO3.out).2.1); rintro e w19 ⟨rfl, hb⟩; replace HO0_0 := mbV_ HO0_0.out hb; replace HO0_2 := mbV_ HO0_2.out hb; replace HO3 := mbV_ HO3.out hb; replace BK385 := mvB_ BK385.out hb; replace HB := Aside0.mk (below_step (bq1_ HB.out GE385.out) hb); (try clear hb); have hcz20_0 := cz0_ BK385.out; have hcz20_1 := cz1_ BK385.out; have hcz20_2 := cz2_ BK385.out; have hfz20_0 := blk_frozen BK385.out 0; have hfz20_1 := blk_frozen BK385.out 1; have hfz20_2 := blk_frozen BK385.out 2) | (go_at_call 9; (with_reducible refine (store_Check.calls k _ _ l0_0 a0_1 _ _ l0_2 t389 _ ?side1 ?side2 ?side3 ?side4 A16.out).mono ?_); (case side1 => exact mvC_ ((Kd.V_reads' HO0_0.out).2.2)); (case side2 => exact (Kd.V_reads' HO0_0.out).2.1); (case side3 => exact mvC_ ((Kd.V_reads' HO0_2.out).2.2)); (case side4 => exact (Kd.V_reads' HO0_2.out).2.1); rintro e w21 ⟨rfl, hb⟩; replace HO0_0 := mbV_ HO0_0.out hb; replace HO0_2 := mbV_ HO0_2.out hb; replace HO3 := mbV_ HO3.out hb; replace BK385 := mvB_ BK385.out hb; replace HB := Aside0.mk (below_step (bq1_ HB.out GE385.out) hb); (try clear hb)))
     go_meet
     case rel => exact ⟨_, (!t389), (by first | rfl | (simp; done) | (simp [*]; done)), H', ⟨by first | omega | exact Nat.le_refl _⟩, ⟨mvV_ HO3.out⟩, ⟨mvV_ HO0_0.out⟩, ⟨mvV_ HO0_2.out⟩, ⟨by (with_reducible repeat (first | refine blk_drewN ?_ _ | refine blk_drew ?_ | refine blk_alloc ?_ _)); exact BK385.out⟩, ⟨bq1_ HB.out GE385.out⟩⟩
    ·replace c15 := Bool.eq_false_iff.mpr c15
     subst c15
     have H1 : (fullerlaw18_StoreCommits.j0 k a1 l2 l3 t386 true l0_0 a0_1 l0_2) = some r := by rw [if_neg (show ¬ (false = true) by decide)] at H; exact H
     clear H
     have H := H1
     clear H1
     have H' := Aside0.mk H
     clear H
     have hcz22_0 := cz0_ BK385.out
     have hcz22_1 := cz1_ BK385.out
     have hcz22_2 := cz2_ BK385.out
     have hfz22_0 := blk_frozen BK385.out 0
     have hfz22_1 := blk_frozen BK385.out 1
     have hfz22_2 := blk_frozen BK385.out 2
     go_wp2_with (first | ((with_reducible refine gate_callee (f := 7) rfl ?_); refine gL_ (some 22) Try.func7 #[.agg #[.slice A0_0 l0_0.length c0_0, .int .i64 a0_1, .slice A0_2 l0_2.length c0_2]] ?_; (with_reducible refine (fullerref18_Few.calls k _ _ l0_0 a0_1 _ _ l0_2 true _ ?side1 ?side2 ?side3 ?side4 A9.out).mono ?_); (case side1 => exact mvC_ ((Kd.V_reads' HO0_0.out).2.2)); (case side2 => exact (Kd.V_reads' HO0_0.out).2.1); (case side3 => exact mvC_ ((Kd.V_reads' HO0_2.out).2.2)); (case side4 => exact (Kd.V_reads' HO0_2.out).2.1); rintro e w23 ⟨rfl, hb⟩; refine ⟨_, rfl, ?_⟩; replace HO0_0 := mbV_ HO0_0.out hb; replace HO0_2 := mbV_ HO0_2.out hb; replace HO3 := mbV_ HO3.out hb; replace BK385 := mvB_ BK385.out hb; replace HB := Aside0.mk (below_step (bq1_ HB.out GE385.out) hb); (try clear hb)) | (go_at_call 8; (with_reducible refine (fullerref18_Writes.calls k _ _ l3 20 false _ ?side1 ?side2 A14.out).mono ?_); (case side1 => exact mvC_ ((Kd.V_reads' HO3.out).2.2)); (case side2 => exact (Kd.V_reads' HO3.out).2.1); rintro e w24 ⟨rfl, hb⟩; replace HO0_0 := mbV_ HO0_0.out hb; replace HO0_2 := mbV_ HO0_2.out hb; replace HO3 := mbV_ HO3.out hb; replace BK385 := mvB_ BK385.out hb; replace HB := Aside0.mk (below_step (bq1_ HB.out GE385.out) hb); (try clear hb)))
     go_meet
     case rel => exact ⟨_, (true), (by first | rfl | (simp; done) | (simp [*]; done)), H', ⟨by first | omega | exact Nat.le_refl _⟩, ⟨mvV_ HO3.out⟩, ⟨mvV_ HO0_0.out⟩, ⟨mvV_ HO0_2.out⟩, ⟨by (with_reducible repeat (first | refine blk_drewN ?_ _ | refine blk_drew ?_ | refine blk_alloc ?_ _)); exact BK385.out⟩, ⟨bq1_ HB.out GE385.out⟩⟩
  ·replace c10 := Bool.eq_false_iff.mpr c10
   subst c10
   have H1 : (fullerlaw18_StoreCommits.j0 k a1 l2 l3 t386 true l0_0 a0_1 l0_2) = some r := by rw [if_neg (show ¬ (false = true) by decide)] at H; exact H
   clear H
   have H := H1
   clear H1
   have H' := Aside0.mk H
   clear H
   have hcz25_0 := cz0_ BK385.out
   have hcz25_1 := cz1_ BK385.out
   have hcz25_2 := cz2_ BK385.out
   have hfz25_0 := blk_frozen BK385.out 0
   have hfz25_1 := blk_frozen BK385.out 1
   have hfz25_2 := blk_frozen BK385.out 2
   go_wp2_with (first | ((with_reducible refine gate_callee (f := 7) rfl ?_); refine gL_ (some 22) Try.func7 #[.agg #[.slice A0_0 l0_0.length c0_0, .int .i64 a0_1, .slice A0_2 l0_2.length c0_2]] ?_; (with_reducible refine (fullerref18_Few.calls k _ _ l0_0 a0_1 _ _ l0_2 false _ ?side1 ?side2 ?side3 ?side4 A9.out).mono ?_); (case side1 => exact mvC_ ((Kd.V_reads' HO0_0.out).2.2)); (case side2 => exact (Kd.V_reads' HO0_0.out).2.1); (case side3 => exact mvC_ ((Kd.V_reads' HO0_2.out).2.2)); (case side4 => exact (Kd.V_reads' HO0_2.out).2.1); rintro e w26 ⟨rfl, hb⟩; refine ⟨_, rfl, ?_⟩; replace HO0_0 := mbV_ HO0_0.out hb; replace HO0_2 := mbV_ HO0_2.out hb; replace HO3 := mbV_ HO3.out hb; replace BK385 := mvB_ BK385.out hb; replace HB := Aside0.mk (below_step (bq1_ HB.out GE385.out) hb); (try clear hb)))
   go_meet
   case rel => exact ⟨_, (true), (by first | rfl | (simp; done) | (simp [*]; done)), H', ⟨by first | omega | exact Nat.le_refl _⟩, ⟨mvV_ HO3.out⟩, ⟨mvV_ HO0_0.out⟩, ⟨mvV_ HO0_2.out⟩, ⟨by (with_reducible repeat (first | refine blk_drewN ?_ _ | refine blk_drew ?_ | refine blk_alloc ?_ _)); exact BK385.out⟩, ⟨bq1_ HB.out GE385.out⟩⟩
 case rest =>
  clear HC6
  try clear c1
  try clear c2
  try clear p2
  try clear c3
  try clear c6
  try clear c7
  try clear c10
  try clear c11
  try clear c11b0
  try clear c11b1
  try clear c15
  try clear hcz12_0
  try clear hcz12_1
  try clear hcz12_2
  try clear hcz17_0
  try clear hcz17_1
  try clear hcz17_2
  try clear hcz20_0
  try clear hcz20_1
  try clear hcz20_2
  try clear hcz22_0
  try clear hcz22_1
  try clear hcz22_2
  try clear hcz25_0
  try clear hcz25_1
  try clear hcz25_2
  try clear hfz12_0
  try clear hfz12_1
  try clear hfz12_2
  try clear hfz17_0
  try clear hfz17_1
  try clear hfz17_2
  try clear hfz20_0
  try clear hfz20_1
  try clear hfz20_2
  try clear hfz22_0
  try clear hfz22_1
  try clear hfz22_2
  try clear hfz25_0
  try clear hfz25_1
  try clear hfz25_2
  obtain ⟨kq, x38_5, rfl, HA, HJ5, HO_3, HO_386000, HO_386002, BK385, HB⟩ := hcut
  cases kq with
  | zero => exact absurd HA.out (by simp [fullerlaw18_StoreCommits.j0])
  | succ kj5 =>
   have H := HA.out
   clear HA
   simp only [fullerlaw18_StoreCommits.j0] at H
   by_cases c27 : x38_5 = true
   ·subst c27
    have H1 : (some t386) = some r := by rw [if_pos rfl] at H; exact H
    clear H
    have H := H1
    clear H1
    obtain rfl := Option.some.inj H
    go_wp2
    go_ret
    exact ⟨by first | rfl | (simp <;> rfl) | (simp [*] <;> rfl), bq1_ HB.out GE385.out⟩
   ·replace c27 := Bool.eq_false_iff.mpr c27
    subst c27
    have H1 : ((store_Commit.f kj5 l0_0 a0_1 l0_2 a1 l2 l3).bind fun bt390 => ((store_All.f kj5 l0_0 a0_1 l0_2 a0_1).bind fun t399 => (if bt390.2.2.2 = 0 then ((store_All.f kj5 bt390.1 bt390.2.1 bt390.2.2.1 bt390.2.1).bind fun t403 => (if (t403.length : Int) = 8 then (if (t399.length : Int) = 8 then (fullerlaw18_StoreCommits.j1 kj5 a1 l2 l3 t386 t399 t403 (bt390.2.1 != (wrap64 (a0_1 + 1))) l0_0 a0_1 l0_2) else (fullerlaw18_StoreCommits.j1 kj5 a1 l2 l3 t386 t399 t403 true l0_0 a0_1 l0_2)) else (fullerlaw18_StoreCommits.j1 kj5 a1 l2 l3 t386 t399 t403 true l0_0 a0_1 l0_2))) else (if t386 = true then ((fullerref18_Same.f kj5 bt390.1 bt390.2.1 bt390.2.2.1 l0_0 a0_1 l0_2).bind fun t402 => (some t402)) else (some false))))) = some r := by rw [if_neg (show ¬ (false = true) by decide)] at H; exact H
    clear H
    have H := H1
    clear H1
    replace H := Option.bind_eq_some_iff.mp H
    obtain ⟨⟨t390, t393, t394, t397⟩, A280, H⟩ := H
    replace H : ((store_All.f kj5 l0_0 a0_1 l0_2 a0_1).bind fun t399 => (if t397 = 0 then ((store_All.f kj5 t390 t393 t394 t393).bind fun t403 => (if (t403.length : Int) = 8 then (if (t399.length : Int) = 8 then (fullerlaw18_StoreCommits.j1 kj5 a1 l2 l3 t386 t399 t403 (t393 != (wrap64 (a0_1 + 1))) l0_0 a0_1 l0_2) else (fullerlaw18_StoreCommits.j1 kj5 a1 l2 l3 t386 t399 t403 true l0_0 a0_1 l0_2)) else (fullerlaw18_StoreCommits.j1 kj5 a1 l2 l3 t386 t399 t403 true l0_0 a0_1 l0_2))) else (if t386 = true then ((fullerref18_Same.f kj5 t390 t393 t394 l0_0 a0_1 l0_2).bind fun t402 => (some t402)) else (some false)))) = some r := H
    have A28 := Aside0.mk A280
    clear A280
    replace H := Option.bind_eq_some_iff.mp H
    obtain ⟨t399, A290, H⟩ := H
    replace H : (if t397 = 0 then ((store_All.f kj5 t390 t393 t394 t393).bind fun t403 => (if (t403.length : Int) = 8 then (if (t399.length : Int) = 8 then (fullerlaw18_StoreCommits.j1 kj5 a1 l2 l3 t386 t399 t403 (t393 != (wrap64 (a0_1 + 1))) l0_0 a0_1 l0_2) else (fullerlaw18_StoreCommits.j1 kj5 a1 l2 l3 t386 t399 t403 true l0_0 a0_1 l0_2)) else (fullerlaw18_StoreCommits.j1 kj5 a1 l2 l3 t386 t399 t403 true l0_0 a0_1 l0_2))) else (if t386 = true then ((fullerref18_Same.f kj5 t390 t393 t394 l0_0 a0_1 l0_2).bind fun t402 => (some t402)) else (some false))) = some r := H
    have A29 := Aside0.mk A290
    clear A290
    by_cases c30 : t397 = 0
    ·rw [if_pos c30] at H
     obtain ⟨c30b0, c30b1⟩ := eqT_ c30
     clear c30
     replace H := Option.bind_eq_some_iff.mp H
     obtain ⟨t403, A310, H⟩ := H
     replace H : (if (t403.length : Int) = 8 then (if (t399.length : Int) = 8 then (fullerlaw18_StoreCommits.j1 kj5 a1 l2 l3 t386 t399 t403 (t393 != (wrap64 (a0_1 + 1))) l0_0 a0_1 l0_2) else (fullerlaw18_StoreCommits.j1 kj5 a1 l2 l3 t386 t399 t403 true l0_0 a0_1 l0_2)) else (fullerlaw18_StoreCommits.j1 kj5 a1 l2 l3 t386 t399 t403 true l0_0 a0_1 l0_2)) = some r := H
     have A31 := Aside0.mk A310
     clear A310
     have HC32 := Aside0.mk H
     clear H
     have hcz33_0 := cz0_ BK385.out
     have hcz33_1 := cz1_ BK385.out
     have hcz33_2 := cz2_ BK385.out
     have hfz33_0 := blk_frozen BK385.out 0
     have hfz33_1 := blk_frozen BK385.out 1
     have hfz33_2 := blk_frozen BK385.out 2
     go_upto_region 9 with (first | ((with_reducible refine gate_callee (f := 10) rfl ?_); refine gL_ (some 45) Try.func10 #[.agg #[.slice A0_0 l0_0.length c0_0, .int .i64 a0_1, .slice A0_2 l0_2.length c0_2], .int .i64 a1, .slice A2 l2.length c2, .slice A3 l3.length c3] ?_; (with_reducible refine (store_Commit.calls kj5 (fun k_ => (((P0_0_ k_ ∨ P0_2_ k_ ∨ P3_ k_) ∨ w.heap.size ≤ k_) ∧ k_ ≠ gb385)) _ _ l0_0 a0_1 (fun k_ => (((P0_0_ k_ ∨ P0_2_ k_ ∨ P3_ k_) ∨ w.heap.size ≤ k_) ∧ k_ ≠ gb385)) _ _ l0_2 a1 _ _ l2 _ _ l3 t390 t393 t394 t397 _ ?side1 ?side2 ?side3 ?side4 ?side5 ?side6 A28.out).mono ?_); (case side1 => (with_reducible repeat (first | apply Kd.V_alloc | apply Kd.V_drewN | apply Kd.V_drew)); first | with_reducible exact HO_386000.out | exact HO_386000.out | exact Kd.V_mono HO_386000.out (fun _ h_ => by simpa only [and_assoc, and_comm, and_left_comm] using h_)); (case side2 => (with_reducible repeat (first | apply Kd.V_alloc | apply Kd.V_drewN | apply Kd.V_drew)); first | with_reducible exact HO_386002.out | exact HO_386002.out | exact Kd.V_mono HO_386002.out (fun _ h_ => by simpa only [and_assoc, and_comm, and_left_comm] using h_)); (case side3 => exact mvC_ ((Kd.C_below HR2.out HB.out))); (case side4 => exact HC2.out); (case side5 => exact mvC_ ((Kd.V_reads' HO_3.out).2.2)); (case side6 => exact (Kd.V_reads' HO_3.out).2.1); rintro e w34 ⟨v391, v395, rfl, ho0, ho1, hb⟩; refine ⟨_, rfl, ?_⟩; have HO392 := Aside0.mk (Kd.V_lower (Kd.V_mono (ok' := fun k_ => ((P0_0_ k_ ∨ P0_2_ k_ ∨ P3_ k_) ∨ w.heap.size ≤ k_) ∧ k_ ≠ gb385) ho0 (fun k_ hk_ => ⟨Or.elim hk_ (fun hs_ => Or.elim hs_ (fun hs_ => hs_.1) (fun hs_ => hs_.1)) (fun hn_ => (.inr (Nat.le_trans (below_size (bq1_ HB.out GE385.out)) hn_))), Or.elim hk_ (fun hs_ => Or.elim hs_ (fun hs_ => hs_.2) (fun hs_ => hs_.2)) (fun hn_ => (mvF_ BK385.out hn_))⟩)) (below_size (bq1_ HB.out GE385.out))); have HO396 := Aside0.mk (Kd.V_lower (Kd.V_mono (ok' := fun k_ => ((P0_0_ k_ ∨ P0_2_ k_ ∨ P3_ k_) ∨ w.heap.size ≤ k_) ∧ k_ ≠ gb385) ho1 (fun k_ hk_ => ⟨Or.elim hk_ (fun hs_ => Or.elim hs_ (fun hs_ => hs_.1) (fun hs_ => hs_.1)) (fun hn_ => (.inr (Nat.le_trans (below_size (bq1_ HB.out GE385.out)) hn_))), Or.elim hk_ (fun hs_ => Or.elim hs_ (fun hs_ => hs_.2) (fun hs_ => hs_.2)) (fun hn_ => (mvF_ BK385.out hn_))⟩)) (below_size (bq1_ HB.out GE385.out))); replace HO_3 := mbV_ HO_3.out hb; replace HO_386000 := mbV_ HO_386000.out hb; replace HO_386002 := mbV_ HO_386002.out hb; replace BK385 := mvB_ BK385.out hb; replace HB := Aside0.mk (below_step (bq1_ HB.out GE385.out) hb); (try clear hb); (try clear ho0); (try clear ho1)) | ((with_reducible refine gate_dst (N := 10) rfl ?_); (try (refine gate_guard (by rfl) ?_; dsimp only)); refine box_event ?hg (N := 10) ?hd (cs := #[.slice none 0 0, .int .i64 0, .slice none 0 0]) (t := 25) ?hr ?_; (case hd => rfl); (case hg => rfl); (case hr => first | (go_simp; done) | (go_simp; rfl)); intro gb398 hg w35 hbox hb; have BK398 := Aside0.mk (hbox); have GW398 := Aside0.mk ((by rw [hg]; exact (below_size (bq1_ HB.out GE385.out)) : w.heap.size ≤ gb398)); have GE398 := Aside0.mk ((by rw [hg]; exact (below_size (bq1_ HB.out GE385.out)) : w.heap.size ≤ gb398)); have NB385_398 := Aside0.mk ((by rw [hg]; exact Nat.ne_of_lt (blk_lt (g := gb385) (o := .cells #[.slice A0_0 l0_0.length c0_0, .int .i64 a0_1, .slice A0_2 l0_2.length c0_2] 25 (0, 0)) (mvK_ BK385.out)) : gb385 ≠ gb398)); have NB398_385 := Aside0.mk ((by rw [hg]; exact Nat.ne_of_gt (blk_lt (g := gb385) (o := .cells #[.slice A0_0 l0_0.length c0_0, .int .i64 a0_1, .slice A0_2 l0_2.length c0_2] 25 (0, 0)) (mvK_ BK385.out)) : gb398 ≠ gb385)); replace HO_3 := Aside0.mk (Kd.V_below (Kd.V_elderB (mvV_ HO_3.out) gb398 (Nat.le_of_eq hg.symm)) hb); replace HO_386000 := Aside0.mk (Kd.V_below (Kd.V_elderB (mvV_ HO_386000.out) gb398 (Nat.le_of_eq hg.symm)) hb); replace HO_386002 := Aside0.mk (Kd.V_below (Kd.V_elderB (mvV_ HO_386002.out) gb398 (Nat.le_of_eq hg.symm)) hb); replace HO392 := Aside0.mk (Kd.V_below (Kd.V_elderB (mvV_ HO392.out) gb398 (Nat.le_of_eq hg.symm)) hb); replace HO396 := Aside0.mk (Kd.V_below (Kd.V_elderB (mvV_ HO396.out) gb398 (Nat.le_of_eq hg.symm)) hb); replace BK385 := mvB_ BK385.out hb; replace HB := Aside0.mk (below_step (bq1_ HB.out GE385.out) hb); clear hb hbox hg; obtain ⟨Ao36, co36, eo36⟩ := Kd.V_slice HO392.out; subst eo36; have hnb37 := NB398_385.out; have hnc37 := NB385_398.out; have hcz38_0 := cz0_ BK398.out; have hcz38_1 := cz1_ BK398.out; have hcz38_2 := cz2_ BK398.out; have hfz38_0 := blk_frozen BK398.out 0; have hfz38_1 := blk_frozen BK398.out 1; have hfz38_2 := blk_frozen BK398.out 2; obtain ⟨Ao39, co39, eo39⟩ := Kd.V_slice HO396.out; subst eo39; have hcz40_0 := cz0_ BK385.out; have hcz40_1 := cz1_ BK385.out; have hcz40_2 := cz2_ BK385.out; have hfz40_0 := blk_frozen BK385.out 0; have hfz40_1 := blk_frozen BK385.out 1; have hfz40_2 := blk_frozen BK385.out 2) | ((with_reducible refine gate_callee (f := 11) rfl ?_); refine gL_ (some 51) Try.func11 #[.agg #[.slice A0_0 l0_0.length c0_0, .int .i64 a0_1, .slice A0_2 l0_2.length c0_2], .int .i64 a0_1] ?_; (with_reducible refine (store_All.calls kj5 _ _ l0_0 a0_1 _ _ l0_2 a0_1 t399 _ ?side1 ?side2 ?side3 ?side4 A29.out).mono ?_); (case side1 => refine (Kd.V_reads' (e := 54) (base := w.heap.size) (ok := fun k_ => ((((P0_0_ k_ ∨ P0_2_ k_ ∨ P3_ k_) ∨ w.heap.size ≤ k_) ∧ k_ ≠ gb385) ∧ k_ ≠ gb398)) (n := l0_0.length) (c := c0_0) ?_).2.2; exact (by (with_reducible repeat (first | apply Kd.V_alloc | apply Kd.V_drewN | apply Kd.V_drew)); exact (Kd.V_mono (Kd.V_far (p := ⟨gb398, 2, none⟩) (Kd.V_far (p := ⟨gb398, 1, none⟩) (Kd.V_far (p := ⟨gb398, 0, none⟩) (Kd.V_mono HO_386000.out (fun k_ hk => (⟨hk, hk.2⟩ : _ ∧ k_ ≠ gb398))) (fun _ hk => hk.2) (.slice Ao36 t390.length co36)) (fun _ hk => hk.2) (.int .i64 t393)) (fun _ hk => hk.2) (.slice Ao39 t394.length co39)) (fun _ h_ => h_.1)))); (case side2 => exact (Kd.V_reads' HO_386000.out).2.1); (case side3 => refine (Kd.V_reads' (e := 3) (base := w.heap.size) (ok := fun k_ => ((((P0_0_ k_ ∨ P0_2_ k_ ∨ P3_ k_) ∨ w.heap.size ≤ k_) ∧ k_ ≠ gb385) ∧ k_ ≠ gb398)) (n := l0_2.length) (c := c0_2) ?_).2.2; exact (by (with_reducible repeat (first | apply Kd.V_alloc | apply Kd.V_drewN | apply Kd.V_drew)); exact (Kd.V_mono (Kd.V_far (p := ⟨gb398, 2, none⟩) (Kd.V_far (p := ⟨gb398, 1, none⟩) (Kd.V_far (p := ⟨gb398, 0, none⟩) (Kd.V_mono HO_386002.out (fun k_ hk => (⟨hk, hk.2⟩ : _ ∧ k_ ≠ gb398))) (fun _ hk => hk.2) (.slice Ao36 t390.length co36)) (fun _ hk => hk.2) (.int .i64 t393)) (fun _ hk => hk.2) (.slice Ao39 t394.length co39)) (fun _ h_ => h_.1)))); (case side4 => exact (Kd.V_reads' HO_386002.out).2.1); rintro e w41 ⟨v400, rfl, ho0, hb⟩; refine ⟨_, rfl, ?_⟩; have HO401 := Aside0.mk (Kd.R_lower (Kd.R_newM (M := fun k_ => (w.heap.size ≤ k_)) ho0 (below_size (bq2_ HB.out GE385.out GE398.out)) (fun k_ h_ => h_)) (below_size (bq2_ HB.out GE385.out GE398.out))); replace HO_3 := Aside0.mk (Kd.V_below (by (with_reducible repeat (first | apply Kd.V_alloc | apply Kd.V_drewN | apply Kd.V_drew)); exact (Kd.V_mono (Kd.V_far (p := ⟨gb398, 2, none⟩) (Kd.V_far (p := ⟨gb398, 1, none⟩) (Kd.V_far (p := ⟨gb398, 0, none⟩) (Kd.V_mono HO_3.out (fun k_ hk => (⟨hk, hk.2⟩ : _ ∧ k_ ≠ gb398))) (fun _ hk => hk.2) (.slice Ao36 t390.length co36)) (fun _ hk => hk.2) (.int .i64 t393)) (fun _ hk => hk.2) (.slice Ao39 t394.length co39)) (fun _ h_ => h_.1))) hb); replace HO_386000 := Aside0.mk (Kd.V_below (by (with_reducible repeat (first | apply Kd.V_alloc | apply Kd.V_drewN | apply Kd.V_drew)); exact (Kd.V_mono (Kd.V_far (p := ⟨gb398, 2, none⟩) (Kd.V_far (p := ⟨gb398, 1, none⟩) (Kd.V_far (p := ⟨gb398, 0, none⟩) (Kd.V_mono HO_386000.out (fun k_ hk => (⟨hk, hk.2⟩ : _ ∧ k_ ≠ gb398))) (fun _ hk => hk.2) (.slice Ao36 t390.length co36)) (fun _ hk => hk.2) (.int .i64 t393)) (fun _ hk => hk.2) (.slice Ao39 t394.length co39)) (fun _ h_ => h_.1))) hb); replace HO_386002 := Aside0.mk (Kd.V_below (by (with_reducible repeat (first | apply Kd.V_alloc | apply Kd.V_drewN | apply Kd.V_drew)); exact (Kd.V_mono (Kd.V_far (p := ⟨gb398, 2, none⟩) (Kd.V_far (p := ⟨gb398, 1, none⟩) (Kd.V_far (p := ⟨gb398, 0, none⟩) (Kd.V_mono HO_386002.out (fun k_ hk => (⟨hk, hk.2⟩ : _ ∧ k_ ≠ gb398))) (fun _ hk => hk.2) (.slice Ao36 t390.length co36)) (fun _ hk => hk.2) (.int .i64 t393)) (fun _ hk => hk.2) (.slice Ao39 t394.length co39)) (fun _ h_ => h_.1))) hb); replace HO392 := Aside0.mk (Kd.V_below (by (with_reducible repeat (first | apply Kd.V_alloc | apply Kd.V_drewN | apply Kd.V_drew)); exact (Kd.V_mono (Kd.V_far (p := ⟨gb398, 2, none⟩) (Kd.V_far (p := ⟨gb398, 1, none⟩) (Kd.V_far (p := ⟨gb398, 0, none⟩) (Kd.V_mono HO392.out (fun k_ hk => (⟨hk, hk.2⟩ : _ ∧ k_ ≠ gb398))) (fun _ hk => hk.2) (.slice Ao36 t390.length co36)) (fun _ hk => hk.2) (.int .i64 t393)) (fun _ hk => hk.2) (.slice Ao39 t394.length co39)) (fun _ h_ => h_.1))) hb); replace HO396 := Aside0.mk (Kd.V_below (by (with_reducible repeat (first | apply Kd.V_alloc | apply Kd.V_drewN | apply Kd.V_drew)); exact (Kd.V_mono (Kd.V_far (p := ⟨gb398, 2, none⟩) (Kd.V_far (p := ⟨gb398, 1, none⟩) (Kd.V_far (p := ⟨gb398, 0, none⟩) (Kd.V_mono HO396.out (fun k_ hk => (⟨hk, hk.2⟩ : _ ∧ k_ ≠ gb398))) (fun _ hk => hk.2) (.slice Ao36 t390.length co36)) (fun _ hk => hk.2) (.int .i64 t393)) (fun _ hk => hk.2) (.slice Ao39 t394.length co39)) (fun _ h_ => h_.1))) hb); replace BK385 := Aside0.mk (blk_below (g := gb385) (o := .cells #[.slice A0_0 l0_0.length c0_0, .int .i64 a0_1, .slice A0_2 l0_2.length c0_2] 25 (0, 0)) (by (with_reducible repeat (first | refine blk_drewN ?_ _ | refine blk_drew ?_ | refine blk_alloc ?_ _)); refine blk_far ?_ NB385_398.out _; (with_reducible repeat (first | refine blk_drewN ?_ _ | refine blk_drew ?_ | refine blk_alloc ?_ _)); refine blk_far ?_ NB385_398.out _; (with_reducible repeat (first | refine blk_drewN ?_ _ | refine blk_drew ?_ | refine blk_alloc ?_ _)); refine blk_far ?_ NB385_398.out _; (with_reducible repeat (first | refine blk_drewN ?_ _ | refine blk_drew ?_ | refine blk_alloc ?_ _)); exact BK385.out) hb); replace BK398 := Aside0.mk (blk_below (g := gb398) (o := .cells #[.slice Ao36 t390.length co36, .int .i64 t393, .slice Ao39 t394.length co39] 25 (0, 0)) (by (with_reducible repeat (first | refine blk_drewN ?_ _ | refine blk_drew ?_ | refine blk_alloc ?_ _)); refine blk_put (cs := #[.slice Ao36 t390.length co36, .int .i64 t393, .slice none 0 0]) ?_ 2 _ rfl; (with_reducible repeat (first | refine blk_drewN ?_ _ | refine blk_drew ?_ | refine blk_alloc ?_ _)); refine blk_put (cs := #[.slice Ao36 t390.length co36, .int .i64 0, .slice none 0 0]) ?_ 1 _ rfl; (with_reducible repeat (first | refine blk_drewN ?_ _ | refine blk_drew ?_ | refine blk_alloc ?_ _)); refine blk_put (cs := #[.slice none 0 0, .int .i64 0, .slice none 0 0]) ?_ 0 _ rfl; (with_reducible repeat (first | refine blk_drewN ?_ _ | refine blk_drew ?_ | refine blk_alloc ?_ _)); exact BK398.out) hb); replace HB := Aside0.mk (below_step (bq2_ HB.out GE385.out GE398.out) hb); (try clear hb); (try clear ho0); have hcz42_0 := cz0_ BK398.out; have hcz42_1 := cz1_ BK398.out; have hcz42_2 := cz2_ BK398.out; have hfz42_0 := blk_frozen BK398.out 0; have hfz42_1 := blk_frozen BK398.out 1; have hfz42_2 := blk_frozen BK398.out 2) | ((with_reducible refine gate_callee (f := 11) rfl ?_); refine gL_ (some 63) Try.func11 #[.agg #[.slice Ao36 t390.length co36, .int .i64 t393, .slice Ao39 t394.length co39], .int .i64 t393] ?_; (with_reducible refine (store_All.calls kj5 _ _ t390 t393 _ _ t394 t393 t403 _ ?side1 ?side2 ?side3 ?side4 A31.out).mono ?_); (case side1 => exact mvC_ ((Kd.V_reads' HO392.out).2.2)); (case side2 => exact (Kd.V_reads' HO392.out).2.1); (case side3 => exact mvC_ ((Kd.V_reads' HO396.out).2.2)); (case side4 => exact (Kd.V_reads' HO396.out).2.1); rintro e w43 ⟨v404, rfl, ho0, hb⟩; refine ⟨_, rfl, ?_⟩; have HO405 := Aside0.mk (Kd.R_lower (Kd.R_newM (M := fun k_ => (w.heap.size ≤ k_)) ho0 (below_size (bq2_ HB.out GE385.out GE398.out)) (fun k_ h_ => h_)) (below_size (bq2_ HB.out GE385.out GE398.out))); replace HO_3 := mbV_ HO_3.out hb; replace HO_386000 := mbV_ HO_386000.out hb; replace HO_386002 := mbV_ HO_386002.out hb; replace HO392 := mbV_ HO392.out hb; replace HO396 := mbV_ HO396.out hb; replace HO401 := mbR_ HO401.out hb; replace BK385 := mvB_ BK385.out hb; replace BK398 := mvB_ BK398.out hb; replace HB := Aside0.mk (below_step (bq2_ HB.out GE385.out GE398.out) hb); (try clear hb); (try clear ho0)))
     (try simp only [Act.put, sA_, sB_, sC_])
     go_cut [79] (fun v79 wc => ∃ (kq : Nat) (x79_31 : Bool), v79 = .bool x79_31 ∧ Aside0 (fullerlaw18_StoreCommits.j1 kq a1 l2 l3 t386 t399 t403 x79_31 l0_0 a0_1 l0_2 = some r) ∧ Aside0 (kq ≤ kj5) ∧ Aside0 (Kd.V k42 42 wc w.heap.size (fun k_ => ((P0_0_ k_ ∨ P0_2_ k_ ∨ P3_ k_) ∨ w.heap.size ≤ k_) ∧ k_ ≠ gb385 ∧ k_ ≠ gb398) (.slice A3 l3.length c3) l3) ∧ Aside0 (Kd.R k37 37 wc w.heap.size (fun k_ => (w.heap.size ≤ k_)) v400 t399) ∧ Aside0 (Kd.R k37 37 wc w.heap.size (fun k_ => (w.heap.size ≤ k_)) v404 t403) ∧ Aside0 (Kd.V (Kd.slice 74 k74) 54 wc w.heap.size (fun k_ => ((P0_0_ k_ ∨ P0_2_ k_ ∨ P3_ k_) ∨ w.heap.size ≤ k_) ∧ k_ ≠ gb385 ∧ k_ ≠ gb398) (.slice A0_0 l0_0.length c0_0) l0_0) ∧ Aside0 (Kd.V (Kd.int .i64) 3 wc w.heap.size (fun k_ => ((P0_0_ k_ ∨ P0_2_ k_ ∨ P3_ k_) ∨ w.heap.size ≤ k_) ∧ k_ ≠ gb385 ∧ k_ ≠ gb398) (.slice A0_2 l0_2.length c0_2) l0_2) ∧ Aside0 (Kd.V (Kd.slice 74 k74) 54 wc w.heap.size (fun k_ => ((P0_0_ k_ ∨ P0_2_ k_ ∨ P3_ k_) ∨ w.heap.size ≤ k_) ∧ k_ ≠ gb385 ∧ k_ ≠ gb398) (.slice Ao36 t390.length co36) t390) ∧ Aside0 (Kd.V (Kd.int .i64) 3 wc w.heap.size (fun k_ => ((P0_0_ k_ ∨ P0_2_ k_ ∨ P3_ k_) ∨ w.heap.size ≤ k_) ∧ k_ ≠ gb385 ∧ k_ ≠ gb398) (.slice Ao39 t394.length co39) t394) ∧ Aside0 (wc.heap[gb385]? = some (.cells #[(.slice A0_0 l0_0.length c0_0), .int .i64 a0_1, (.slice A0_2 l0_2.length c0_2)] 25 (0, 0))) ∧ Aside0 (wc.heap[gb398]? = some (.cells #[(.slice Ao36 t390.length co36), .int .i64 t393, (.slice Ao39 t394.length co39)] 25 (0, 0))) ∧ Aside0 (Below w.heap.size w wc))
     case first =>
      have H := HC32.out
      clear HC32
      by_cases c44 : (t403.length : Int) = 8
      ·rw [if_pos c44] at H
       obtain ⟨c44b0, c44b1⟩ := eqT_ c44
       clear c44
       (first | rw [c44b0] | (simp only [i64_w, i32_w]; rw [c44b0]) | rw [c44b1] | skip)
       by_cases c45 : (t399.length : Int) = 8
       ·rw [if_pos c45] at H
        obtain ⟨c45b0, c45b1⟩ := eqT_ c45
        clear c45
        have H' := Aside0.mk H
        clear H
        obtain ⟨Ao46, co46, eo46⟩ := Kd.R_slice HO405.out
        subst eo46
        obtain ⟨Ao47, co47, eo47⟩ := Kd.R_slice HO401.out
        subst eo47
        have hnb48 := NB398_385.out
        have hnc48 := NB385_398.out
        have hcz49_0 := cz0_ BK398.out
        have hcz49_1 := cz1_ BK398.out
        have hcz49_2 := cz2_ BK398.out
        have hfz49_0 := blk_frozen BK398.out 0
        have hfz49_1 := blk_frozen BK398.out 1
        have hfz49_2 := blk_frozen BK398.out 2
        have hcz50_0 := cz0_ BK385.out
        have hcz50_1 := cz1_ BK385.out
        have hcz50_2 := cz2_ BK385.out
        have hfz50_0 := blk_frozen BK385.out 0
        have hfz50_1 := blk_frozen BK385.out 1
        have hfz50_2 := blk_frozen BK385.out 2
        go_wp2
        go_meet
        case rel => exact ⟨_, ((t393 != (wrap64 (a0_1 + 1)))), (by first | rfl | (simp; done) | (simp [*]; done)), H', ⟨by have := HJ5.out; first | omega | exact Nat.le_refl _⟩, ⟨by (with_reducible repeat (first | apply Kd.V_alloc | apply Kd.V_drewN | apply Kd.V_drew)); exact Kd.V_mono HO_3.out (fun _ hk => ⟨hk.1.1, ⟨hk.1.2, hk.2⟩⟩)⟩, ⟨by (with_reducible repeat (first | apply Kd.R_alloc | apply Kd.R_drewN | apply Kd.R_drew)); exact Kd.R_mono HO401.out (fun _ hk => hk.1)⟩, ⟨by (with_reducible repeat (first | apply Kd.R_alloc | apply Kd.R_drewN | apply Kd.R_drew)); exact Kd.R_mono HO405.out (fun _ hk => hk.1)⟩, ⟨by (with_reducible repeat (first | apply Kd.V_alloc | apply Kd.V_drewN | apply Kd.V_drew)); exact Kd.V_mono HO_386000.out (fun _ hk => ⟨hk.1.1, ⟨hk.1.2, hk.2⟩⟩)⟩, ⟨by (with_reducible repeat (first | apply Kd.V_alloc | apply Kd.V_drewN | apply Kd.V_drew)); exact Kd.V_mono HO_386002.out (fun _ hk => ⟨hk.1.1, ⟨hk.1.2, hk.2⟩⟩)⟩, ⟨by (with_reducible repeat (first | apply Kd.V_alloc | apply Kd.V_drewN | apply Kd.V_drew)); exact Kd.V_mono HO392.out (fun _ hk => ⟨hk.1.1, ⟨hk.1.2, hk.2⟩⟩)⟩, ⟨by (with_reducible repeat (first | apply Kd.V_alloc | apply Kd.V_drewN | apply Kd.V_drew)); exact Kd.V_mono HO396.out (fun _ hk => ⟨hk.1.1, ⟨hk.1.2, hk.2⟩⟩)⟩, ⟨by (with_reducible repeat (first | refine blk_drewN ?_ _ | refine blk_drew ?_ | refine blk_alloc ?_ _)); exact BK385.out⟩, ⟨by (with_reducible repeat (first | refine blk_drewN ?_ _ | refine blk_drew ?_ | refine blk_alloc ?_ _)); exact BK398.out⟩, ⟨bq2_ HB.out GE385.out GE398.out⟩⟩
       ·rw [if_neg c45] at H
        have c45b0 : ((t399.length : Int) == 8) = false := beq_eq_false_iff_ne.mpr c45
        have c45b1 : ((t399.length : Int) != 8) = true := bne_iff_ne.mpr c45
        have H' := Aside0.mk H
        clear H
        obtain ⟨Ao51, co51, eo51⟩ := Kd.R_slice HO405.out
        subst eo51
        obtain ⟨Ao52, co52, eo52⟩ := Kd.R_slice HO401.out
        subst eo52
        go_wp2
        go_meet
        case rel => exact ⟨_, (true), (by first | rfl | (simp; done) | (simp [*]; done)), H', ⟨by have := HJ5.out; first | omega | exact Nat.le_refl _⟩, ⟨by (with_reducible repeat (first | apply Kd.V_alloc | apply Kd.V_drewN | apply Kd.V_drew)); exact Kd.V_mono HO_3.out (fun _ hk => ⟨hk.1.1, ⟨hk.1.2, hk.2⟩⟩)⟩, ⟨by (with_reducible repeat (first | apply Kd.R_alloc | apply Kd.R_drewN | apply Kd.R_drew)); exact Kd.R_mono HO401.out (fun _ hk => hk.1)⟩, ⟨by (with_reducible repeat (first | apply Kd.R_alloc | apply Kd.R_drewN | apply Kd.R_drew)); exact Kd.R_mono HO405.out (fun _ hk => hk.1)⟩, ⟨by (with_reducible repeat (first | apply Kd.V_alloc | apply Kd.V_drewN | apply Kd.V_drew)); exact Kd.V_mono HO_386000.out (fun _ hk => ⟨hk.1.1, ⟨hk.1.2, hk.2⟩⟩)⟩, ⟨by (with_reducible repeat (first | apply Kd.V_alloc | apply Kd.V_drewN | apply Kd.V_drew)); exact Kd.V_mono HO_386002.out (fun _ hk => ⟨hk.1.1, ⟨hk.1.2, hk.2⟩⟩)⟩, ⟨by (with_reducible repeat (first | apply Kd.V_alloc | apply Kd.V_drewN | apply Kd.V_drew)); exact Kd.V_mono HO392.out (fun _ hk => ⟨hk.1.1, ⟨hk.1.2, hk.2⟩⟩)⟩, ⟨by (with_reducible repeat (first | apply Kd.V_alloc | apply Kd.V_drewN | apply Kd.V_drew)); exact Kd.V_mono HO396.out (fun _ hk => ⟨hk.1.1, ⟨hk.1.2, hk.2⟩⟩)⟩, ⟨by (with_reducible repeat (first | refine blk_drewN ?_ _ | refine blk_drew ?_ | refine blk_alloc ?_ _)); exact BK385.out⟩, ⟨by (with_reducible repeat (first | refine blk_drewN ?_ _ | refine blk_drew ?_ | refine blk_alloc ?_ _)); exact BK398.out⟩, ⟨bq2_ HB.out GE385.out GE398.out⟩⟩
      ·rw [if_neg c44] at H
       have c44b0 : ((t403.length : Int) == 8) = false := beq_eq_false_iff_ne.mpr c44
       have c44b1 : ((t403.length : Int) != 8) = true := bne_iff_ne.mpr c44
       (first | rw [c44b0] | (simp only [i64_w, i32_w]; rw [c44b0]) | rw [c44b1] | skip)
       have H' := Aside0.mk H
       clear H
       obtain ⟨Ao53, co53, eo53⟩ := Kd.R_slice HO405.out
       subst eo53
       go_wp2
       go_meet
       case rel => exact ⟨_, (true), (by first | rfl | (simp; done) | (simp [*]; done)), H', ⟨by have := HJ5.out; first | omega | exact Nat.le_refl _⟩, ⟨by (with_reducible repeat (first | apply Kd.V_alloc | apply Kd.V_drewN | apply Kd.V_drew)); exact Kd.V_mono HO_3.out (fun _ hk => ⟨hk.1.1, ⟨hk.1.2, hk.2⟩⟩)⟩, ⟨by (with_reducible repeat (first | apply Kd.R_alloc | apply Kd.R_drewN | apply Kd.R_drew)); exact Kd.R_mono HO401.out (fun _ hk => hk.1)⟩, ⟨by (with_reducible repeat (first | apply Kd.R_alloc | apply Kd.R_drewN | apply Kd.R_drew)); exact Kd.R_mono HO405.out (fun _ hk => hk.1)⟩, ⟨by (with_reducible repeat (first | apply Kd.V_alloc | apply Kd.V_drewN | apply Kd.V_drew)); exact Kd.V_mono HO_386000.out (fun _ hk => ⟨hk.1.1, ⟨hk.1.2, hk.2⟩⟩)⟩, ⟨by (with_reducible repeat (first | apply Kd.V_alloc | apply Kd.V_drewN | apply Kd.V_drew)); exact Kd.V_mono HO_386002.out (fun _ hk => ⟨hk.1.1, ⟨hk.1.2, hk.2⟩⟩)⟩, ⟨by (with_reducible repeat (first | apply Kd.V_alloc | apply Kd.V_drewN | apply Kd.V_drew)); exact Kd.V_mono HO392.out (fun _ hk => ⟨hk.1.1, ⟨hk.1.2, hk.2⟩⟩)⟩, ⟨by (with_reducible repeat (first | apply Kd.V_alloc | apply Kd.V_drewN | apply Kd.V_drew)); exact Kd.V_mono HO396.out (fun _ hk => ⟨hk.1.1, ⟨hk.1.2, hk.2⟩⟩)⟩, ⟨by (with_reducible repeat (first | refine blk_drewN ?_ _ | refine blk_drew ?_ | refine blk_alloc ?_ _)); exact BK385.out⟩, ⟨by (with_reducible repeat (first | refine blk_drewN ?_ _ | refine blk_drew ?_ | refine blk_alloc ?_ _)); exact BK398.out⟩, ⟨bq2_ HB.out GE385.out GE398.out⟩⟩
     case rest =>
      clear HC32
      try clear c1
      try clear c2
      try clear p2
      try clear c3
      try clear c4
      try clear c6
      try clear p6
      try clear c7
      try clear c10
      try clear c11
      try clear c11b0
      try clear c11b1
      try clear c15
      try clear c27
      try clear c30
      try clear c30b0
      try clear c30b1
      try clear c37
      try clear c44
      try clear c44b0
      try clear c44b1
      try clear c45
      try clear c45b0
      try clear c45b1
      try clear c48
      try clear hcz12_0
      try clear hcz12_1
      try clear hcz12_2
      try clear hcz17_0
      try clear hcz17_1
      try clear hcz17_2
      try clear hcz20_0
      try clear hcz20_1
      try clear hcz20_2
      try clear hcz22_0
      try clear hcz22_1
      try clear hcz22_2
      try clear hcz25_0
      try clear hcz25_1
      try clear hcz25_2
      try clear hcz33_0
      try clear hcz33_1
      try clear hcz33_2
      try clear hcz38_0
      try clear hcz38_1
      try clear hcz38_2
      try clear hcz40_0
      try clear hcz40_1
      try clear hcz40_2
      try clear hcz42_0
      try clear hcz42_1
      try clear hcz42_2
      try clear hcz49_0
      try clear hcz49_1
      try clear hcz49_2
      try clear hcz50_0
      try clear hcz50_1
      try clear hcz50_2
      try clear hfz12_0
      try clear hfz12_1
      try clear hfz12_2
      try clear hfz17_0
      try clear hfz17_1
      try clear hfz17_2
      try clear hfz20_0
      try clear hfz20_1
      try clear hfz20_2
      try clear hfz22_0
      try clear hfz22_1
      try clear hfz22_2
      try clear hfz25_0
      try clear hfz25_1
      try clear hfz25_2
      try clear hfz33_0
      try clear hfz33_1
      try clear hfz33_2
      try clear hfz38_0
      try clear hfz38_1
      try clear hfz38_2
      try clear hfz40_0
      try clear hfz40_1
      try clear hfz40_2
      try clear hfz42_0
      try clear hfz42_1
      try clear hfz42_2
      try clear hfz49_0
      try clear hfz49_1
      try clear hfz49_2
      try clear hfz50_0
      try clear hfz50_1
      try clear hfz50_2
      try clear p2
      obtain ⟨kq, x79_31, rfl, HA, HJ31, HO_3, HO_12, HO_13, HO_386000, HO_386002, HO_399000, HO_399002, BK385, BK398, HB⟩ := hcut
      cases kq with
      | zero => exact absurd HA.out (by simp [fullerlaw18_StoreCommits.j1])
      | succ kj31 =>
       have H := HA.out
       clear HA
       simp only [fullerlaw18_StoreCommits.j1] at H
       by_cases c54 : x79_31 = true
       ·subst c54
        have H1 : (some false) = some r := by rw [if_pos rfl] at H; exact H
        clear H
        have H := H1
        clear H1
        obtain rfl := Option.some.inj H
        go_wp2
        go_ret
        exact ⟨by first | rfl | (simp <;> rfl) | (simp [*] <;> rfl), bq2_ HB.out GE385.out GE398.out⟩
       ·replace c54 := Bool.eq_false_iff.mpr c54
        subst c54
        have H1 : (fullerlaw18_StoreCommits.l0 kj31 a1 l2 l3 t386 t399 t403 0 l0_0 a0_1 l0_2) = some r := by rw [if_neg (show ¬ (false = true) by decide)] at H; exact H
        clear H
        have H := H1
        clear H1
        have H' := Aside0.mk H
        clear H
        go_wp2
        go_loopg [14] kj31 (fun kq v14 w' => ∃ (x14_3 : Int), v14 = .int .i64 x14_3 ∧ Aside0 (fullerlaw18_StoreCommits.l0 kq a1 l2 l3 t386 t399 t403 x14_3 l0_0 a0_1 l0_2 = some r) ∧ Aside0 (kq ≤ kj31) ∧ Aside0 (Kd.V k42 42 w' w.heap.size (fun k_ => ((P0_0_ k_ ∨ P0_2_ k_ ∨ P3_ k_) ∨ w.heap.size ≤ k_) ∧ k_ ≠ gb385 ∧ k_ ≠ gb398) (.slice A3 l3.length c3) l3) ∧ Aside0 (Kd.R k37 37 w' w.heap.size (fun k_ => (w.heap.size ≤ k_)) v400 t399) ∧ Aside0 (Kd.R k37 37 w' w.heap.size (fun k_ => (w.heap.size ≤ k_)) v404 t403) ∧ Aside0 (Kd.V (Kd.slice 74 k74) 54 w' w.heap.size (fun k_ => ((P0_0_ k_ ∨ P0_2_ k_ ∨ P3_ k_) ∨ w.heap.size ≤ k_) ∧ k_ ≠ gb385 ∧ k_ ≠ gb398) (.slice A0_0 l0_0.length c0_0) l0_0) ∧ Aside0 (Kd.V (Kd.int .i64) 3 w' w.heap.size (fun k_ => ((P0_0_ k_ ∨ P0_2_ k_ ∨ P3_ k_) ∨ w.heap.size ≤ k_) ∧ k_ ≠ gb385 ∧ k_ ≠ gb398) (.slice A0_2 l0_2.length c0_2) l0_2) ∧ Aside0 (Kd.V (Kd.slice 74 k74) 54 w' w.heap.size (fun k_ => ((P0_0_ k_ ∨ P0_2_ k_ ∨ P3_ k_) ∨ w.heap.size ≤ k_) ∧ k_ ≠ gb385 ∧ k_ ≠ gb398) (.slice Ao36 t390.length co36) t390) ∧ Aside0 (Kd.V (Kd.int .i64) 3 w' w.heap.size (fun k_ => ((P0_0_ k_ ∨ P0_2_ k_ ∨ P3_ k_) ∨ w.heap.size ≤ k_) ∧ k_ ≠ gb385 ∧ k_ ≠ gb398) (.slice Ao39 t394.length co39) t394) ∧ Aside0 (w'.heap[gb385]? = some (.cells #[(.slice A0_0 l0_0.length c0_0), .int .i64 a0_1, (.slice A0_2 l0_2.length c0_2)] 25 (0, 0))) ∧ Aside0 (w'.heap[gb398]? = some (.cells #[(.slice Ao36 t390.length co36), .int .i64 t393, (.slice Ao39 t394.length co39)] 25 (0, 0))) ∧ Aside0 (Below w.heap.size w w'))
        case atStart => exact ⟨(0), (by first | rfl | (simp; done) | (simp [*]; done)), H', ⟨Nat.le_refl _⟩, ⟨mvV_ HO_3.out⟩, ⟨mvR_ HO_12.out⟩, ⟨mvR_ HO_13.out⟩, ⟨mvV_ HO_386000.out⟩, ⟨mvV_ HO_386002.out⟩, ⟨mvV_ HO_399000.out⟩, ⟨mvV_ HO_399002.out⟩, ⟨by (with_reducible repeat (first | refine blk_drewN ?_ _ | refine blk_drew ?_ | refine blk_alloc ?_ _)); exact BK385.out⟩, ⟨by (with_reducible repeat (first | refine blk_drewN ?_ _ | refine blk_drew ?_ | refine blk_alloc ?_ _)); exact BK398.out⟩, ⟨bq2_ HB.out GE385.out GE398.out⟩⟩
        case round =>
         clear H'
         try clear c1
         try clear c2
         try clear p2
         try clear c3
         try clear c4
         try clear c5
         try clear c6
         try clear p6
         try clear c7
         try clear c10
         try clear c11
         try clear c11b0
         try clear c11b1
         try clear c15
         try clear c27
         try clear c30
         try clear c30b0
         try clear c30b1
         try clear c37
         try clear c44
         try clear c44b0
         try clear c44b1
         try clear c45
         try clear c45b0
         try clear c45b1
         try clear c48
         try clear c54
         try clear hcz12_0
         try clear hcz12_1
         try clear hcz12_2
         try clear hcz17_0
         try clear hcz17_1
         try clear hcz17_2
         try clear hcz20_0
         try clear hcz20_1
         try clear hcz20_2
         try clear hcz22_0
         try clear hcz22_1
         try clear hcz22_2
         try clear hcz25_0
         try clear hcz25_1
         try clear hcz25_2
         try clear hcz33_0
         try clear hcz33_1
         try clear hcz33_2
         try clear hcz38_0
         try clear hcz38_1
         try clear hcz38_2
         try clear hcz40_0
         try clear hcz40_1
         try clear hcz40_2
         try clear hcz42_0
         try clear hcz42_1
         try clear hcz42_2
         try clear hcz49_0
         try clear hcz49_1
         try clear hcz49_2
         try clear hcz50_0
         try clear hcz50_1
         try clear hcz50_2
         try clear hfz12_0
         try clear hfz12_1
         try clear hfz12_2
         try clear hfz17_0
         try clear hfz17_1
         try clear hfz17_2
         try clear hfz20_0
         try clear hfz20_1
         try clear hfz20_2
         try clear hfz22_0
         try clear hfz22_1
         try clear hfz22_2
         try clear hfz25_0
         try clear hfz25_1
         try clear hfz25_2
         try clear hfz33_0
         try clear hfz33_1
         try clear hfz33_2
         try clear hfz38_0
         try clear hfz38_1
         try clear hfz38_2
         try clear hfz40_0
         try clear hfz40_1
         try clear hfz40_2
         try clear hfz42_0
         try clear hfz42_1
         try clear hfz42_2
         try clear hfz49_0
         try clear hfz49_1
         try clear hfz49_2
         try clear hfz50_0
         try clear hfz50_1
         try clear hfz50_2
         try clear p2
         try clear p6
         obtain ⟨x14_3, rfl, HA, HK3, HO_3, HO_12, HO_13, HO_386000, HO_386002, HO_399000, HO_399002, BK385, BK398, HB⟩ := hrel
         cases gk with
         | zero => exact absurd HA.out (by simp [fullerlaw18_StoreCommits.l0])
         | succ k3 =>
          have H := HA.out
          clear HA
          simp only [fullerlaw18_StoreCommits.l0] at H
          by_cases c55 : x14_3 < 8
          ·rw [if_pos c55] at H
           have c55b0 : decide (x14_3 < 8) = true := decide_eq_true c55
           clear c55
           by_cases c56 : 0 ≤ x14_3
           ·rw [if_pos c56] at H
            have c56b0 : decide (0 ≤ x14_3) = true := decide_eq_true c56
            clear c56
            by_cases c57 : x14_3 < (t399.length : Int)
            ·rw [if_pos c57] at H
             have c57b0 : decide (x14_3 < (t399.length : Int)) = true := decide_eq_true c57
             clear c57
             replace H := Option.bind_eq_some_iff.mp H
             obtain ⟨⟨t409, t412, t415⟩, A580, H⟩ := H
             replace H : ((fullerref10_In.f k3 l2 x14_3).bind fun t417 => (fullerlaw18_StoreCommits.l1 k3 a1 l2 l3 t386 t399 t403 x14_3 t417 0 l0_0 a0_1 l0_2 ((rd_T37 t399 x14_3).f0) ((rd_T37 t399 x14_3).f1) t409 t412)) = some r := H
             have A58 := Aside0.mk A580
             clear A580
             replace H := Option.bind_eq_some_iff.mp H
             obtain ⟨t417, A590, H⟩ := H
             replace H : (fullerlaw18_StoreCommits.l1 k3 a1 l2 l3 t386 t399 t403 x14_3 t417 0 l0_0 a0_1 l0_2 ((rd_T37 t399 x14_3).f0) ((rd_T37 t399 x14_3).f1) t409 t412) = some r := H
             have A59 := Aside0.mk A590
             clear A590
             have H' := Aside0.mk H
             clear H
             obtain ⟨Ao60, co60, eo60⟩ := Kd.R_slice HO_12.out
             subst eo60
             have p407 : 0 ≤ (x14_3 : Int) := od_
             have q407 : x14_3 < (t399.length : Int) := od_
             obtain ⟨ad407, A407_0, c407_0, A407_1, c407_1, e407, hx407_0, hx407_1, hl407_0, hi407_0, hl407_1, hi407_1⟩ := at_T37 (Kd.R_reads' HO_12.out).2.2 x14_3 p407 q407
             cases e407
             obtain ⟨ce407, hce407, hMe407, hcc407⟩ := Kd.R_get HO_12.out z37 x14_3 p407 (by first | exact q407 | exact od_ | (have e_ := (Kd.R_reads' HO_12.out).1; omega))
             obtain ⟨ve407_0, ve407_1, rfl, ge407_0, ge407_1⟩ := k37_openM hMe407
             have hv407_0 := hcc407 0 _ rfl
             rw [Nat.add_zero] at hv407_0
             replace hv407_0 := Option.some.inj (hv407_0.symm.trans hx407_0)
             rw [hv407_0] at ge407_0
             have HL407_0 := Aside0.mk (show Kd.R (Kd.int .i64) 3 _ _ _ _ ((rd_T37 t399 x14_3).f0) from ge407_0)
             clear hv407_0 ge407_0
             have hv407_1 := hcc407 1 _ rfl
             rw [add_field _ _ 1 (by omega)] at hv407_1
             replace hv407_1 := Option.some.inj (hv407_1.symm.trans hx407_1)
             rw [hv407_1] at ge407_1
             have HL407_1 := Aside0.mk (show Kd.R (Kd.int .i64) 3 _ _ _ _ ((rd_T37 t399 x14_3).f1) from ge407_1)
             clear hv407_1 ge407_1 hcc407 hce407
             have HR407_0 := Aside0.mk hi407_0
             have HC407_0 := Aside0.mk hl407_0
             clear hi407_0 hl407_0
             have HR407_1 := Aside0.mk hi407_1
             have HC407_1 := Aside0.mk hl407_1
             clear hi407_1 hl407_1
             replace p407 := eq_true p407
             replace q407 := eq_true q407
             go_wp2_with (first | ((with_reducible refine gate_dst (N := 15) rfl ?_); (try (refine gate_guard (by rfl) ?_; dsimp only)); refine box_event ?hg (N := 15) ?hd (cs := #[.slice none 0 0, .slice none 0 0]) (t := 37) ?hr ?_; (case hd => rfl); (case hg => rfl); (case hr => first | (go_simp; done) | (go_simp; rfl)); intro gb408 hg w61 hbox hb; have BK408 := Aside0.mk (hbox); have GW408 := Aside0.mk ((by rw [hg]; exact (below_size (bq2_ HB.out GE385.out GE398.out)) : w.heap.size ≤ gb408)); have GE408 := Aside0.mk ((by rw [hg]; exact (below_size (bq2_ HB.out GE385.out GE398.out)) : w.heap.size ≤ gb408)); have NB385_408 := Aside0.mk ((by rw [hg]; exact Nat.ne_of_lt (blk_lt (g := gb385) (o := .cells #[.slice A0_0 l0_0.length c0_0, .int .i64 a0_1, .slice A0_2 l0_2.length c0_2] 25 (0, 0)) (mvK_ BK385.out)) : gb385 ≠ gb408)); have NB408_385 := Aside0.mk ((by rw [hg]; exact Nat.ne_of_gt (blk_lt (g := gb385) (o := .cells #[.slice A0_0 l0_0.length c0_0, .int .i64 a0_1, .slice A0_2 l0_2.length c0_2] 25 (0, 0)) (mvK_ BK385.out)) : gb408 ≠ gb385)); have NB398_408 := Aside0.mk ((by rw [hg]; exact Nat.ne_of_lt (blk_lt (g := gb398) (o := .cells #[.slice Ao36 t390.length co36, .int .i64 t393, .slice Ao39 t394.length co39] 25 (0, 0)) (mvK_ BK398.out)) : gb398 ≠ gb408)); have NB408_398 := Aside0.mk ((by rw [hg]; exact Nat.ne_of_gt (blk_lt (g := gb398) (o := .cells #[.slice Ao36 t390.length co36, .int .i64 t393, .slice Ao39 t394.length co39] 25 (0, 0)) (mvK_ BK398.out)) : gb408 ≠ gb398)); replace HO_3 := Aside0.mk (Kd.V_below (Kd.V_elderB (mvV_ HO_3.out) gb408 (Nat.le_of_eq hg.symm)) hb); replace HO_12 := Aside0.mk (Kd.R_below (Kd.R_elderB (mvR_ HO_12.out) gb408 (Nat.le_of_eq hg.symm)) hb); replace HO_13 := Aside0.mk (Kd.R_below (Kd.R_elderB (mvR_ HO_13.out) gb408 (Nat.le_of_eq hg.symm)) hb); replace HO_386000 := Aside0.mk (Kd.V_below (Kd.V_elderB (mvV_ HO_386000.out) gb408 (Nat.le_of_eq hg.symm)) hb); replace HO_386002 := Aside0.mk (Kd.V_below (Kd.V_elderB (mvV_ HO_386002.out) gb408 (Nat.le_of_eq hg.symm)) hb); replace HO_399000 := Aside0.mk (Kd.V_below (Kd.V_elderB (mvV_ HO_399000.out) gb408 (Nat.le_of_eq hg.symm)) hb); replace HO_399002 := Aside0.mk (Kd.V_below (Kd.V_elderB (mvV_ HO_399002.out) gb408 (Nat.le_of_eq hg.symm)) hb); replace HL407_0 := mbR_ HL407_0.out hb; replace HL407_1 := mbR_ HL407_1.out hb; replace BK385 := mvB_ BK385.out hb; replace BK398 := mvB_ BK398.out hb; replace HR407_0 := Aside0.mk (Kd.C_below (mvC_ HR407_0.out) hb); replace HR407_1 := Aside0.mk (Kd.C_below (mvC_ HR407_1.out) hb); replace HB := Aside0.mk (below_step (bq2_ HB.out GE385.out GE398.out) hb); clear hb hbox hg; have hnb62 := NB408_385.out; have hnc62 := NB385_408.out; have hnb63 := NB408_398.out; have hnc63 := NB398_408.out; have hcz64_0 := cz0_ BK408.out; have hcz64_1 := cz1_ BK408.out; have hfz64_0 := blk_frozen BK408.out 0; have hfz64_1 := blk_frozen BK408.out 1; have hnb65 := NB385_398.out; have hnc65 := NB398_385.out; have hcz66_0 := cz0_ BK385.out; have hcz66_1 := cz1_ BK385.out; have hcz66_2 := cz2_ BK385.out; have hfz66_0 := blk_frozen BK385.out 0; have hfz66_1 := blk_frozen BK385.out 1; have hfz66_2 := blk_frozen BK385.out 2) | ((with_reducible refine gate_callee (f := 13) rfl ?_); refine gL_ (some 92) Try.func13 #[.agg #[.slice A0_0 l0_0.length c0_0, .int .i64 a0_1, .slice A0_2 l0_2.length c0_2], .int .i64 x14_3, .int .i64 a1] ?_; (with_reducible refine (store_Read.calls k3 _ _ l0_0 a0_1 _ _ l0_2 x14_3 a1 t409 t412 t415 _ ?side1 ?side2 ?side3 ?side4 A58.out).mono ?_); (case side1 => refine (Kd.V_reads' (e := 54) (base := w.heap.size) (ok := fun k_ => ((((P0_0_ k_ ∨ P0_2_ k_ ∨ P3_ k_) ∨ w.heap.size ≤ k_) ∧ (k_ ≠ gb385 ∧ k_ ≠ gb398)) ∧ k_ ≠ gb408)) (n := l0_0.length) (c := c0_0) ?_).2.2; exact (by (with_reducible repeat (first | apply Kd.V_alloc | apply Kd.V_drewN | apply Kd.V_drew)); exact (Kd.V_mono (Kd.V_far (p := ⟨gb408, 1, none⟩) (Kd.V_far (p := ⟨gb408, 0, none⟩) (Kd.V_mono HO_386000.out (fun k_ hk => (⟨hk, hk.2⟩ : _ ∧ k_ ≠ gb408))) (fun _ hk => hk.2) (.slice A407_0 ((rd_T37 t399 x14_3).f0).length c407_0)) (fun _ hk => hk.2) (.slice A407_1 ((rd_T37 t399 x14_3).f1).length c407_1)) (fun _ h_ => h_.1)))); (case side2 => exact (Kd.V_reads' HO_386000.out).2.1); (case side3 => refine (Kd.V_reads' (e := 3) (base := w.heap.size) (ok := fun k_ => ((((P0_0_ k_ ∨ P0_2_ k_ ∨ P3_ k_) ∨ w.heap.size ≤ k_) ∧ (k_ ≠ gb385 ∧ k_ ≠ gb398)) ∧ k_ ≠ gb408)) (n := l0_2.length) (c := c0_2) ?_).2.2; exact (by (with_reducible repeat (first | apply Kd.V_alloc | apply Kd.V_drewN | apply Kd.V_drew)); exact (Kd.V_mono (Kd.V_far (p := ⟨gb408, 1, none⟩) (Kd.V_far (p := ⟨gb408, 0, none⟩) (Kd.V_mono HO_386002.out (fun k_ hk => (⟨hk, hk.2⟩ : _ ∧ k_ ≠ gb408))) (fun _ hk => hk.2) (.slice A407_0 ((rd_T37 t399 x14_3).f0).length c407_0)) (fun _ hk => hk.2) (.slice A407_1 ((rd_T37 t399 x14_3).f1).length c407_1)) (fun _ h_ => h_.1)))); (case side4 => exact (Kd.V_reads' HO_386002.out).2.1); rintro e w67 ⟨v410, v413, rfl, ho0, ho1, hb⟩; refine ⟨_, rfl, ?_⟩; have HO411 := Aside0.mk (Kd.R_lower (Kd.R_newM (M := fun k_ => (w.heap.size ≤ k_)) ho0 (below_size (bq3_ HB.out GE385.out GE398.out GE408.out)) (fun k_ h_ => h_)) (below_size (bq3_ HB.out GE385.out GE398.out GE408.out))); have HO414 := Aside0.mk (Kd.R_lower (Kd.R_newM (M := fun k_ => (w.heap.size ≤ k_)) ho1 (below_size (bq3_ HB.out GE385.out GE398.out GE408.out)) (fun k_ h_ => h_)) (below_size (bq3_ HB.out GE385.out GE398.out GE408.out))); replace HO_3 := Aside0.mk (Kd.V_below (by (with_reducible repeat (first | apply Kd.V_alloc | apply Kd.V_drewN | apply Kd.V_drew)); exact (Kd.V_mono (Kd.V_far (p := ⟨gb408, 1, none⟩) (Kd.V_far (p := ⟨gb408, 0, none⟩) (Kd.V_mono HO_3.out (fun k_ hk => (⟨hk, hk.2⟩ : _ ∧ k_ ≠ gb408))) (fun _ hk => hk.2) (.slice A407_0 ((rd_T37 t399 x14_3).f0).length c407_0)) (fun _ hk => hk.2) (.slice A407_1 ((rd_T37 t399 x14_3).f1).length c407_1)) (fun _ h_ => h_.1))) hb); replace HO_12 := Aside0.mk (Kd.R_below (by (with_reducible repeat (first | apply Kd.R_alloc | apply Kd.R_drewN | apply Kd.R_drew)); exact (Kd.R_mono (Kd.R_far (p := ⟨gb408, 1, none⟩) (Kd.R_far (p := ⟨gb408, 0, none⟩) (Kd.R_mono HO_12.out (fun k_ hk => (⟨hk, hk.2⟩ : _ ∧ k_ ≠ gb408))) (fun _ hk => hk.2) (.slice A407_0 ((rd_T37 t399 x14_3).f0).length c407_0)) (fun _ hk => hk.2) (.slice A407_1 ((rd_T37 t399 x14_3).f1).length c407_1)) (fun _ h_ => h_.1))) hb); replace HO_13 := Aside0.mk (Kd.R_below (by (with_reducible repeat (first | apply Kd.R_alloc | apply Kd.R_drewN | apply Kd.R_drew)); exact (Kd.R_mono (Kd.R_far (p := ⟨gb408, 1, none⟩) (Kd.R_far (p := ⟨gb408, 0, none⟩) (Kd.R_mono HO_13.out (fun k_ hk => (⟨hk, hk.2⟩ : _ ∧ k_ ≠ gb408))) (fun _ hk => hk.2) (.slice A407_0 ((rd_T37 t399 x14_3).f0).length c407_0)) (fun _ hk => hk.2) (.slice A407_1 ((rd_T37 t399 x14_3).f1).length c407_1)) (fun _ h_ => h_.1))) hb); replace HO_386000 := Aside0.mk (Kd.V_below (by (with_reducible repeat (first | apply Kd.V_alloc | apply Kd.V_drewN | apply Kd.V_drew)); exact (Kd.V_mono (Kd.V_far (p := ⟨gb408, 1, none⟩) (Kd.V_far (p := ⟨gb408, 0, none⟩) (Kd.V_mono HO_386000.out (fun k_ hk => (⟨hk, hk.2⟩ : _ ∧ k_ ≠ gb408))) (fun _ hk => hk.2) (.slice A407_0 ((rd_T37 t399 x14_3).f0).length c407_0)) (fun _ hk => hk.2) (.slice A407_1 ((rd_T37 t399 x14_3).f1).length c407_1)) (fun _ h_ => h_.1))) hb); replace HO_386002 := Aside0.mk (Kd.V_below (by (with_reducible repeat (first | apply Kd.V_alloc | apply Kd.V_drewN | apply Kd.V_drew)); exact (Kd.V_mono (Kd.V_far (p := ⟨gb408, 1, none⟩) (Kd.V_far (p := ⟨gb408, 0, none⟩) (Kd.V_mono HO_386002.out (fun k_ hk => (⟨hk, hk.2⟩ : _ ∧ k_ ≠ gb408))) (fun _ hk => hk.2) (.slice A407_0 ((rd_T37 t399 x14_3).f0).length c407_0)) (fun _ hk => hk.2) (.slice A407_1 ((rd_T37 t399 x14_3).f1).length c407_1)) (fun _ h_ => h_.1))) hb); replace HO_399000 := Aside0.mk (Kd.V_below (by (with_reducible repeat (first | apply Kd.V_alloc | apply Kd.V_drewN | apply Kd.V_drew)); exact (Kd.V_mono (Kd.V_far (p := ⟨gb408, 1, none⟩) (Kd.V_far (p := ⟨gb408, 0, none⟩) (Kd.V_mono HO_399000.out (fun k_ hk => (⟨hk, hk.2⟩ : _ ∧ k_ ≠ gb408))) (fun _ hk => hk.2) (.slice A407_0 ((rd_T37 t399 x14_3).f0).length c407_0)) (fun _ hk => hk.2) (.slice A407_1 ((rd_T37 t399 x14_3).f1).length c407_1)) (fun _ h_ => h_.1))) hb); replace HO_399002 := Aside0.mk (Kd.V_below (by (with_reducible repeat (first | apply Kd.V_alloc | apply Kd.V_drewN | apply Kd.V_drew)); exact (Kd.V_mono (Kd.V_far (p := ⟨gb408, 1, none⟩) (Kd.V_far (p := ⟨gb408, 0, none⟩) (Kd.V_mono HO_399002.out (fun k_ hk => (⟨hk, hk.2⟩ : _ ∧ k_ ≠ gb408))) (fun _ hk => hk.2) (.slice A407_0 ((rd_T37 t399 x14_3).f0).length c407_0)) (fun _ hk => hk.2) (.slice A407_1 ((rd_T37 t399 x14_3).f1).length c407_1)) (fun _ h_ => h_.1))) hb); replace BK385 := Aside0.mk (blk_below (g := gb385) (o := .cells #[.slice A0_0 l0_0.length c0_0, .int .i64 a0_1, .slice A0_2 l0_2.length c0_2] 25 (0, 0)) (by (with_reducible repeat (first | refine blk_drewN ?_ _ | refine blk_drew ?_ | refine blk_alloc ?_ _)); refine blk_far ?_ NB385_408.out _; (with_reducible repeat (first | refine blk_drewN ?_ _ | refine blk_drew ?_ | refine blk_alloc ?_ _)); refine blk_far ?_ NB385_408.out _; (with_reducible repeat (first | refine blk_drewN ?_ _ | refine blk_drew ?_ | refine blk_alloc ?_ _)); exact BK385.out) hb); replace BK398 := Aside0.mk (blk_below (g := gb398) (o := .cells #[.slice Ao36 t390.length co36, .int .i64 t393, .slice Ao39 t394.length co39] 25 (0, 0)) (by (with_reducible repeat (first | refine blk_drewN ?_ _ | refine blk_drew ?_ | refine blk_alloc ?_ _)); refine blk_far ?_ NB398_408.out _; (with_reducible repeat (first | refine blk_drewN ?_ _ | refine blk_drew ?_ | refine blk_alloc ?_ _)); refine blk_far ?_ NB398_408.out _; (with_reducible repeat (first | refine blk_drewN ?_ _ | refine blk_drew ?_ | refine blk_alloc ?_ _)); exact BK398.out) hb); replace HR407_0 := Aside0.mk (Kd.C_below ((Kd.R_reads' (by (with_reducible repeat (first | apply Kd.R_alloc | apply Kd.R_drewN | apply Kd.R_drew)); exact (Kd.R_mono (Kd.R_far (p := ⟨gb408, 1, none⟩) (Kd.R_far (p := ⟨gb408, 0, none⟩) (Kd.R_types HL407_0.out BK408.out (by decide)) (fun _ hk => hk.2) (.slice A407_0 ((rd_T37 t399 x14_3).f0).length c407_0)) (fun _ hk => hk.2) (.slice A407_1 ((rd_T37 t399 x14_3).f1).length c407_1)) (fun _ h_ => h_.1)))).2.2) hb); replace HL407_0 := Aside0.mk (Kd.R_below (by (with_reducible repeat (first | apply Kd.R_alloc | apply Kd.R_drewN | apply Kd.R_drew)); exact (Kd.R_mono (Kd.R_far (p := ⟨gb408, 1, none⟩) (Kd.R_far (p := ⟨gb408, 0, none⟩) (Kd.R_types HL407_0.out BK408.out (by decide)) (fun _ hk => hk.2) (.slice A407_0 ((rd_T37 t399 x14_3).f0).length c407_0)) (fun _ hk => hk.2) (.slice A407_1 ((rd_T37 t399 x14_3).f1).length c407_1)) (fun _ h_ => h_.1))) hb); replace HR407_1 := Aside0.mk (Kd.C_below ((Kd.R_reads' (by (with_reducible repeat (first | apply Kd.R_alloc | apply Kd.R_drewN | apply Kd.R_drew)); exact (Kd.R_mono (Kd.R_far (p := ⟨gb408, 1, none⟩) (Kd.R_far (p := ⟨gb408, 0, none⟩) (Kd.R_types HL407_1.out BK408.out (by decide)) (fun _ hk => hk.2) (.slice A407_0 ((rd_T37 t399 x14_3).f0).length c407_0)) (fun _ hk => hk.2) (.slice A407_1 ((rd_T37 t399 x14_3).f1).length c407_1)) (fun _ h_ => h_.1)))).2.2) hb); replace HL407_1 := Aside0.mk (Kd.R_below (by (with_reducible repeat (first | apply Kd.R_alloc | apply Kd.R_drewN | apply Kd.R_drew)); exact (Kd.R_mono (Kd.R_far (p := ⟨gb408, 1, none⟩) (Kd.R_far (p := ⟨gb408, 0, none⟩) (Kd.R_types HL407_1.out BK408.out (by decide)) (fun _ hk => hk.2) (.slice A407_0 ((rd_T37 t399 x14_3).f0).length c407_0)) (fun _ hk => hk.2) (.slice A407_1 ((rd_T37 t399 x14_3).f1).length c407_1)) (fun _ h_ => h_.1))) hb); replace BK408 := Aside0.mk (blk_below (g := gb408) (o := .cells #[.slice A407_0 ((rd_T37 t399 x14_3).f0).length c407_0, .slice A407_1 ((rd_T37 t399 x14_3).f1).length c407_1] 37 (0, 0)) (by (with_reducible repeat (first | refine blk_drewN ?_ _ | refine blk_drew ?_ | refine blk_alloc ?_ _)); refine blk_put (cs := #[.slice A407_0 ((rd_T37 t399 x14_3).f0).length c407_0, .slice none 0 0]) ?_ 1 _ rfl; (with_reducible repeat (first | refine blk_drewN ?_ _ | refine blk_drew ?_ | refine blk_alloc ?_ _)); refine blk_put (cs := #[.slice none 0 0, .slice none 0 0]) ?_ 0 _ rfl; (with_reducible repeat (first | refine blk_drewN ?_ _ | refine blk_drew ?_ | refine blk_alloc ?_ _)); exact BK408.out) hb); replace HB := Aside0.mk (below_step (bq3_ HB.out GE385.out GE398.out GE408.out) hb); (try clear hb); (try clear ho0); (try clear ho1)) | ((with_reducible refine gate_dst (N := 16) rfl ?_); (try (refine gate_guard (by rfl) ?_; dsimp only)); refine box_event ?hg (N := 16) ?hd (cs := #[.slice none 0 0, .slice none 0 0]) (t := 37) ?hr ?_; (case hd => rfl); (case hg => rfl); (case hr => first | (go_simp; done) | (go_simp; rfl)); intro gb416 hg w68 hbox hb; have BK416 := Aside0.mk (hbox); have GW416 := Aside0.mk ((by rw [hg]; exact (below_size (bq3_ HB.out GE385.out GE398.out GE408.out)) : w.heap.size ≤ gb416)); have GE416 := Aside0.mk ((by rw [hg]; exact (below_size (bq3_ HB.out GE385.out GE398.out GE408.out)) : w.heap.size ≤ gb416)); have NB385_416 := Aside0.mk ((by rw [hg]; exact Nat.ne_of_lt (blk_lt (g := gb385) (o := .cells #[.slice A0_0 l0_0.length c0_0, .int .i64 a0_1, .slice A0_2 l0_2.length c0_2] 25 (0, 0)) (mvK_ BK385.out)) : gb385 ≠ gb416)); have NB416_385 := Aside0.mk ((by rw [hg]; exact Nat.ne_of_gt (blk_lt (g := gb385) (o := .cells #[.slice A0_0 l0_0.length c0_0, .int .i64 a0_1, .slice A0_2 l0_2.length c0_2] 25 (0, 0)) (mvK_ BK385.out)) : gb416 ≠ gb385)); have NB398_416 := Aside0.mk ((by rw [hg]; exact Nat.ne_of_lt (blk_lt (g := gb398) (o := .cells #[.slice Ao36 t390.length co36, .int .i64 t393, .slice Ao39 t394.length co39] 25 (0, 0)) (mvK_ BK398.out)) : gb398 ≠ gb416)); have NB416_398 := Aside0.mk ((by rw [hg]; exact Nat.ne_of_gt (blk_lt (g := gb398) (o := .cells #[.slice Ao36 t390.length co36, .int .i64 t393, .slice Ao39 t394.length co39] 25 (0, 0)) (mvK_ BK398.out)) : gb416 ≠ gb398)); have NB408_416 := Aside0.mk ((by rw [hg]; exact Nat.ne_of_lt (blk_lt (g := gb408) (o := .cells #[.slice A407_0 ((rd_T37 t399 x14_3).f0).length c407_0, .slice A407_1 ((rd_T37 t399 x14_3).f1).length c407_1] 37 (0, 0)) (mvK_ BK408.out)) : gb408 ≠ gb416)); have NB416_408 := Aside0.mk ((by rw [hg]; exact Nat.ne_of_gt (blk_lt (g := gb408) (o := .cells #[.slice A407_0 ((rd_T37 t399 x14_3).f0).length c407_0, .slice A407_1 ((rd_T37 t399 x14_3).f1).length c407_1] 37 (0, 0)) (mvK_ BK408.out)) : gb416 ≠ gb408)); replace HO_3 := Aside0.mk (Kd.V_below (Kd.V_elderB (mvV_ HO_3.out) gb416 (Nat.le_of_eq hg.symm)) hb); replace HO_12 := Aside0.mk (Kd.R_below (Kd.R_elderB (mvR_ HO_12.out) gb416 (Nat.le_of_eq hg.symm)) hb); replace HO_13 := Aside0.mk (Kd.R_below (Kd.R_elderB (mvR_ HO_13.out) gb416 (Nat.le_of_eq hg.symm)) hb); replace HO_386000 := Aside0.mk (Kd.V_below (Kd.V_elderB (mvV_ HO_386000.out) gb416 (Nat.le_of_eq hg.symm)) hb); replace HO_386002 := Aside0.mk (Kd.V_below (Kd.V_elderB (mvV_ HO_386002.out) gb416 (Nat.le_of_eq hg.symm)) hb); replace HO_399000 := Aside0.mk (Kd.V_below (Kd.V_elderB (mvV_ HO_399000.out) gb416 (Nat.le_of_eq hg.symm)) hb); replace HO_399002 := Aside0.mk (Kd.V_below (Kd.V_elderB (mvV_ HO_399002.out) gb416 (Nat.le_of_eq hg.symm)) hb); replace HL407_0 := mbR_ HL407_0.out hb; replace HL407_1 := mbR_ HL407_1.out hb; replace HO411 := mbR_ HO411.out hb; replace HO414 := mbR_ HO414.out hb; replace BK385 := mvB_ BK385.out hb; replace BK398 := mvB_ BK398.out hb; replace HR407_0 := Aside0.mk (Kd.C_below (mvC_ HR407_0.out) hb); replace HR407_1 := Aside0.mk (Kd.C_below (mvC_ HR407_1.out) hb); replace BK408 := mvB_ BK408.out hb; replace HB := Aside0.mk (below_step (bq3_ HB.out GE385.out GE398.out GE408.out) hb); clear hb hbox hg; obtain ⟨Ao69, co69, eo69⟩ := Kd.R_slice HO411.out; subst eo69; have hnb70 := NB416_385.out; have hnc70 := NB385_416.out; have hnb71 := NB416_398.out; have hnc71 := NB398_416.out; have hnb72 := NB416_408.out; have hnc72 := NB408_416.out; have hcz73_0 := cz0_ BK416.out; have hcz73_1 := cz1_ BK416.out; have hfz73_0 := blk_frozen BK416.out 0; have hfz73_1 := blk_frozen BK416.out 1; obtain ⟨Ao74, co74, eo74⟩ := Kd.R_slice HO414.out; subst eo74) | ((with_reducible refine gate_callee (f := 14) rfl ?_); refine gL_ (some 97) Try.func14 #[.slice A2 l2.length c2, .int .i64 x14_3] ?_; (with_reducible refine (fullerref10_In.calls k3 _ _ l2 x14_3 t417 _ ?side1 ?side2 A59.out).mono ?_); (case side1 => exact Kd.C_below HR2.out (bq4_ HB.out GE385.out GE398.out GE408.out GE416.out)); (case side2 => exact HC2.out); rintro e w' ⟨rfl, ⟨nd, rfl⟩⟩; refine ⟨_, rfl, ?_⟩))
             go_loopg [18, 19] k3 (fun kq v18 v19 w' => ∃ (x18_4 : Bool) (x19_4 : Int) (x409000_4 : List Int) (x409001_4 : List Int) (u409000 : Value) (u409001 : Value), v18 = .bool x18_4 ∧ v19 = .int .i64 x19_4 ∧ Aside0 (fullerlaw18_StoreCommits.l1 kq a1 l2 l3 t386 t399 t403 x14_3 x18_4 x19_4 l0_0 a0_1 l0_2 x409000_4 x409001_4 t409 t412 = some r) ∧ Aside0 (kq ≤ k3) ∧ Aside0 (Kd.V k42 42 w' w.heap.size (fun k_ => ((P0_0_ k_ ∨ P0_2_ k_ ∨ P3_ k_) ∨ w.heap.size ≤ k_) ∧ k_ ≠ gb385 ∧ k_ ≠ gb398 ∧ k_ ≠ gb408 ∧ k_ ≠ gb416) (.slice A3 l3.length c3) l3) ∧ Aside0 (Kd.R k37 37 w' w.heap.size (fun k_ => (w.heap.size ≤ k_) ∧ k_ ≠ gb408 ∧ k_ ≠ gb416) (.slice (some ad407) t399.length co60) t399) ∧ Aside0 (Kd.R k37 37 w' w.heap.size (fun k_ => (w.heap.size ≤ k_) ∧ k_ ≠ gb408 ∧ k_ ≠ gb416) v404 t403) ∧ Aside0 (Kd.V (Kd.slice 74 k74) 54 w' w.heap.size (fun k_ => ((P0_0_ k_ ∨ P0_2_ k_ ∨ P3_ k_) ∨ w.heap.size ≤ k_) ∧ k_ ≠ gb385 ∧ k_ ≠ gb398 ∧ k_ ≠ gb408 ∧ k_ ≠ gb416) (.slice A0_0 l0_0.length c0_0) l0_0) ∧ Aside0 (Kd.V (Kd.int .i64) 3 w' w.heap.size (fun k_ => ((P0_0_ k_ ∨ P0_2_ k_ ∨ P3_ k_) ∨ w.heap.size ≤ k_) ∧ k_ ≠ gb385 ∧ k_ ≠ gb398 ∧ k_ ≠ gb408 ∧ k_ ≠ gb416) (.slice A0_2 l0_2.length c0_2) l0_2) ∧ Aside0 (Kd.V (Kd.slice 74 k74) 54 w' w.heap.size (fun k_ => ((P0_0_ k_ ∨ P0_2_ k_ ∨ P3_ k_) ∨ w.heap.size ≤ k_) ∧ k_ ≠ gb385 ∧ k_ ≠ gb398 ∧ k_ ≠ gb408 ∧ k_ ≠ gb416) (.slice Ao36 t390.length co36) t390) ∧ Aside0 (Kd.V (Kd.int .i64) 3 w' w.heap.size (fun k_ => ((P0_0_ k_ ∨ P0_2_ k_ ∨ P3_ k_) ∨ w.heap.size ≤ k_) ∧ k_ ≠ gb385 ∧ k_ ≠ gb398 ∧ k_ ≠ gb408 ∧ k_ ≠ gb416) (.slice Ao39 t394.length co39) t394) ∧ Aside0 (Kd.V (Kd.int .i64) 3 w' w.heap.size (fun k_ => ((P0_0_ k_ ∨ P0_2_ k_ ∨ P3_ k_) ∨ w.heap.size ≤ k_) ∧ k_ ≠ gb385 ∧ k_ ≠ gb398 ∧ k_ ≠ gb408 ∧ k_ ≠ gb416) u409000 x409000_4) ∧ Aside0 (Kd.V (Kd.int .i64) 3 w' w.heap.size (fun k_ => ((P0_0_ k_ ∨ P0_2_ k_ ∨ P3_ k_) ∨ w.heap.size ≤ k_) ∧ k_ ≠ gb385 ∧ k_ ≠ gb398 ∧ k_ ≠ gb408 ∧ k_ ≠ gb416) u409001 x409001_4) ∧ Aside0 (Kd.R (Kd.int .i64) 3 w' w.heap.size (fun k_ => (w.heap.size ≤ k_)) (.slice Ao69 t409.length co69) t409) ∧ Aside0 (Kd.R (Kd.int .i64) 3 w' w.heap.size (fun k_ => (w.heap.size ≤ k_)) (.slice Ao74 t412.length co74) t412) ∧ Aside0 (w'.heap[gb385]? = some (.cells #[(.slice A0_0 l0_0.length c0_0), .int .i64 a0_1, (.slice A0_2 l0_2.length c0_2)] 25 (0, 0))) ∧ Aside0 (w'.heap[gb398]? = some (.cells #[(.slice Ao36 t390.length co36), .int .i64 t393, (.slice Ao39 t394.length co39)] 25 (0, 0))) ∧ Aside0 (w'.heap[gb408]? = some (.cells #[u409000, u409001] 37 (0, 0))) ∧ Aside0 (w'.heap[gb416]? = some (.cells #[(.slice Ao69 t409.length co69), (.slice Ao74 t412.length co74)] 37 (0, 0))) ∧ Aside0 (Below w.heap.size w w'))
             case atStart => exact ⟨(t417), (0), ((rd_T37 t399 x14_3).f0), ((rd_T37 t399 x14_3).f1), (.slice A407_0 ((rd_T37 t399 x14_3).f0).length c407_0), (.slice A407_1 ((rd_T37 t399 x14_3).f1).length c407_1), (by first | rfl | (simp; done) | (simp [*]; done)), (by first | rfl | (simp; done) | (simp [*]; done)), H', ⟨Nat.le_refl _⟩, ⟨by (with_reducible repeat (first | apply Kd.V_alloc | apply Kd.V_drewN | apply Kd.V_drew)); exact Kd.V_mono (Kd.V_far (p := ⟨gb416, 1, none⟩) (Kd.V_far (p := ⟨gb416, 0, none⟩) (Kd.V_mono HO_3.out (fun k_ hk => (⟨hk, hk.2⟩ : _ ∧ k_ ≠ gb416))) (fun _ hk => hk.2) (.slice Ao69 t409.length co69)) (fun _ hk => hk.2) (.slice Ao74 t412.length co74)) (fun _ hk => ⟨hk.1.1.1.1, ⟨hk.1.1.1.2.1, ⟨hk.1.1.1.2.2, ⟨hk.1.1.2, hk.1.2⟩⟩⟩⟩)⟩, ⟨by (with_reducible repeat (first | apply Kd.R_alloc | apply Kd.R_drewN | apply Kd.R_drew)); exact Kd.R_mono (Kd.R_far (p := ⟨gb416, 1, none⟩) (Kd.R_far (p := ⟨gb416, 0, none⟩) (Kd.R_mono HO_12.out (fun k_ hk => (⟨hk, hk.2⟩ : _ ∧ k_ ≠ gb416))) (fun _ hk => hk.2) (.slice Ao69 t409.length co69)) (fun _ hk => hk.2) (.slice Ao74 t412.length co74)) (fun _ hk => ⟨hk.1.1.1, ⟨hk.1.1.2, hk.1.2⟩⟩)⟩, ⟨by (with_reducible repeat (first | apply Kd.R_alloc | apply Kd.R_drewN | apply Kd.R_drew)); exact Kd.R_mono (Kd.R_far (p := ⟨gb416, 1, none⟩) (Kd.R_far (p := ⟨gb416, 0, none⟩) (Kd.R_mono HO_13.out (fun k_ hk => (⟨hk, hk.2⟩ : _ ∧ k_ ≠ gb416))) (fun _ hk => hk.2) (.slice Ao69 t409.length co69)) (fun _ hk => hk.2) (.slice Ao74 t412.length co74)) (fun _ hk => ⟨hk.1.1.1, ⟨hk.1.1.2, hk.1.2⟩⟩)⟩, ⟨by (with_reducible repeat (first | apply Kd.V_alloc | apply Kd.V_drewN | apply Kd.V_drew)); exact Kd.V_mono (Kd.V_far (p := ⟨gb416, 1, none⟩) (Kd.V_far (p := ⟨gb416, 0, none⟩) (Kd.V_mono HO_386000.out (fun k_ hk => (⟨hk, hk.2⟩ : _ ∧ k_ ≠ gb416))) (fun _ hk => hk.2) (.slice Ao69 t409.length co69)) (fun _ hk => hk.2) (.slice Ao74 t412.length co74)) (fun _ hk => ⟨hk.1.1.1.1, ⟨hk.1.1.1.2.1, ⟨hk.1.1.1.2.2, ⟨hk.1.1.2, hk.1.2⟩⟩⟩⟩)⟩, ⟨by (with_reducible repeat (first | apply Kd.V_alloc | apply Kd.V_drewN | apply Kd.V_drew)); exact Kd.V_mono (Kd.V_far (p := ⟨gb416, 1, none⟩) (Kd.V_far (p := ⟨gb416, 0, none⟩) (Kd.V_mono HO_386002.out (fun k_ hk => (⟨hk, hk.2⟩ : _ ∧ k_ ≠ gb416))) (fun _ hk => hk.2) (.slice Ao69 t409.length co69)) (fun _ hk => hk.2) (.slice Ao74 t412.length co74)) (fun _ hk => ⟨hk.1.1.1.1, ⟨hk.1.1.1.2.1, ⟨hk.1.1.1.2.2, ⟨hk.1.1.2, hk.1.2⟩⟩⟩⟩)⟩, ⟨by (with_reducible repeat (first | apply Kd.V_alloc | apply Kd.V_drewN | apply Kd.V_drew)); exact Kd.V_mono (Kd.V_far (p := ⟨gb416, 1, none⟩) (Kd.V_far (p := ⟨gb416, 0, none⟩) (Kd.V_mono HO_399000.out (fun k_ hk => (⟨hk, hk.2⟩ : _ ∧ k_ ≠ gb416))) (fun _ hk => hk.2) (.slice Ao69 t409.length co69)) (fun _ hk => hk.2) (.slice Ao74 t412.length co74)) (fun _ hk => ⟨hk.1.1.1.1, ⟨hk.1.1.1.2.1, ⟨hk.1.1.1.2.2, ⟨hk.1.1.2, hk.1.2⟩⟩⟩⟩)⟩, ⟨by (with_reducible repeat (first | apply Kd.V_alloc | apply Kd.V_drewN | apply Kd.V_drew)); exact Kd.V_mono (Kd.V_far (p := ⟨gb416, 1, none⟩) (Kd.V_far (p := ⟨gb416, 0, none⟩) (Kd.V_mono HO_399002.out (fun k_ hk => (⟨hk, hk.2⟩ : _ ∧ k_ ≠ gb416))) (fun _ hk => hk.2) (.slice Ao69 t409.length co69)) (fun _ hk => hk.2) (.slice Ao74 t412.length co74)) (fun _ hk => ⟨hk.1.1.1.1, ⟨hk.1.1.1.2.1, ⟨hk.1.1.1.2.2, ⟨hk.1.1.2, hk.1.2⟩⟩⟩⟩)⟩, ⟨Kd.V_mono (ok := fun k_ => w.heap.size ≤ k_ ∧ k_ ≠ gb385 ∧ k_ ≠ gb398 ∧ k_ ≠ gb408 ∧ k_ ≠ gb416) (Kd.R_V (by (with_reducible repeat (first | apply Kd.R_alloc | apply Kd.R_drewN | apply Kd.R_drew)); exact Kd.R_mono (Kd.R_far (p := ⟨gb416, 1, none⟩) (Kd.R_far (p := ⟨gb416, 0, none⟩) (Kd.R_types (Kd.R_types (Kd.R_types (Kd.R_types (Kd.R_types HL407_0.out BK385.out (by decide)) BK398.out (by decide)) BK408.out (by decide)) BK416.out (by decide)) BK416.out (by decide)) (fun _ hk => hk.2) (.slice Ao69 t409.length co69)) (fun _ hk => hk.2) (.slice Ao74 t412.length co74)) (fun _ hk => ⟨hk.1.1.1.1.1.1, ⟨hk.1.1.1.1.2, ⟨hk.1.1.1.2, ⟨hk.1.1.2, hk.1.2⟩⟩⟩⟩))) (fun k_ hk => by first | exact ⟨(.inr (hk.1)), hk.2⟩ | exact (.inr (hk)))⟩, ⟨Kd.V_mono (ok := fun k_ => w.heap.size ≤ k_ ∧ k_ ≠ gb385 ∧ k_ ≠ gb398 ∧ k_ ≠ gb408 ∧ k_ ≠ gb416) (Kd.R_V (by (with_reducible repeat (first | apply Kd.R_alloc | apply Kd.R_drewN | apply Kd.R_drew)); exact Kd.R_mono (Kd.R_far (p := ⟨gb416, 1, none⟩) (Kd.R_far (p := ⟨gb416, 0, none⟩) (Kd.R_types (Kd.R_types (Kd.R_types (Kd.R_types (Kd.R_types HL407_1.out BK385.out (by decide)) BK398.out (by decide)) BK408.out (by decide)) BK416.out (by decide)) BK416.out (by decide)) (fun _ hk => hk.2) (.slice Ao69 t409.length co69)) (fun _ hk => hk.2) (.slice Ao74 t412.length co74)) (fun _ hk => ⟨hk.1.1.1.1.1.1, ⟨hk.1.1.1.1.2, ⟨hk.1.1.1.2, ⟨hk.1.1.2, hk.1.2⟩⟩⟩⟩))) (fun k_ hk => by first | exact ⟨(.inr (hk.1)), hk.2⟩ | exact (.inr (hk)))⟩, ⟨by (with_reducible repeat (first | apply Kd.R_alloc | apply Kd.R_drewN | apply Kd.R_drew)); exact Kd.R_mono (Kd.R_far (p := ⟨gb416, 1, none⟩) (Kd.R_far (p := ⟨gb416, 0, none⟩) (Kd.R_types HO411.out BK416.out (by decide)) (fun _ hk => hk.2) (.slice Ao69 t409.length co69)) (fun _ hk => hk.2) (.slice Ao74 t412.length co74)) (fun _ hk => hk.1.1)⟩, ⟨by (with_reducible repeat (first | apply Kd.R_alloc | apply Kd.R_drewN | apply Kd.R_drew)); exact Kd.R_mono (Kd.R_far (p := ⟨gb416, 1, none⟩) (Kd.R_far (p := ⟨gb416, 0, none⟩) (Kd.R_types HO414.out BK416.out (by decide)) (fun _ hk => hk.2) (.slice Ao69 t409.length co69)) (fun _ hk => hk.2) (.slice Ao74 t412.length co74)) (fun _ hk => hk.1.1)⟩, ⟨by (with_reducible repeat (first | refine blk_drewN ?_ _ | refine blk_drew ?_ | refine blk_alloc ?_ _)); refine blk_far ?_ NB385_416.out _; (with_reducible repeat (first | refine blk_drewN ?_ _ | refine blk_drew ?_ | refine blk_alloc ?_ _)); refine blk_far ?_ NB385_416.out _; (with_reducible repeat (first | refine blk_drewN ?_ _ | refine blk_drew ?_ | refine blk_alloc ?_ _)); exact BK385.out⟩, ⟨by (with_reducible repeat (first | refine blk_drewN ?_ _ | refine blk_drew ?_ | refine blk_alloc ?_ _)); refine blk_far ?_ NB398_416.out _; (with_reducible repeat (first | refine blk_drewN ?_ _ | refine blk_drew ?_ | refine blk_alloc ?_ _)); refine blk_far ?_ NB398_416.out _; (with_reducible repeat (first | refine blk_drewN ?_ _ | refine blk_drew ?_ | refine blk_alloc ?_ _)); exact BK398.out⟩, ⟨by (with_reducible repeat (first | refine blk_drewN ?_ _ | refine blk_drew ?_ | refine blk_alloc ?_ _)); refine blk_far ?_ NB408_416.out _; (with_reducible repeat (first | refine blk_drewN ?_ _ | refine blk_drew ?_ | refine blk_alloc ?_ _)); refine blk_far ?_ NB408_416.out _; (with_reducible repeat (first | refine blk_drewN ?_ _ | refine blk_drew ?_ | refine blk_alloc ?_ _)); exact BK408.out⟩, ⟨by (with_reducible repeat (first | refine blk_drewN ?_ _ | refine blk_drew ?_ | refine blk_alloc ?_ _)); refine blk_put (cs := #[.slice Ao69 t409.length co69, .slice none 0 0]) ?_ 1 _ rfl; (with_reducible repeat (first | refine blk_drewN ?_ _ | refine blk_drew ?_ | refine blk_alloc ?_ _)); refine blk_put (cs := #[.slice none 0 0, .slice none 0 0]) ?_ 0 _ rfl; (with_reducible repeat (first | refine blk_drewN ?_ _ | refine blk_drew ?_ | refine blk_alloc ?_ _)); exact BK416.out⟩, ⟨bq4_ HB.out GE385.out GE398.out GE408.out GE416.out⟩⟩
             case round =>
              clear H'
              try clear c1
              try clear c2
              try clear p2
              try clear c3
              try clear c4
              try clear p4
              try clear q4
              try clear hx4
              try clear c5
              try clear c6
              try clear p6
              try clear c7
              try clear c10
              try clear c11
              try clear c11b0
              try clear c11b1
              try clear c13
              try clear c14
              try clear c15
              try clear c27
              try clear c30
              try clear c30b0
              try clear c30b1
              try clear c37
              try clear c40
              try clear p40
              try clear q40
              try clear hx40
              try clear c44
              try clear c44b0
              try clear c44b1
              try clear c45
              try clear c45b0
              try clear c45b1
              try clear c48
              try clear c54
              try clear c55
              try clear c55b0
              try clear c56
              try clear c56b0
              try clear c57
              try clear c57b0
              try clear c62
              try clear c63
              try clear p64
              try clear c65
              try clear c70
              try clear c71
              try clear c72
              try clear hcz12_0
              try clear hcz12_1
              try clear hcz12_2
              try clear hcz17_0
              try clear hcz17_1
              try clear hcz17_2
              try clear hcz20_0
              try clear hcz20_1
              try clear hcz20_2
              try clear hcz22_0
              try clear hcz22_1
              try clear hcz22_2
              try clear hcz25_0
              try clear hcz25_1
              try clear hcz25_2
              try clear hcz33_0
              try clear hcz33_1
              try clear hcz33_2
              try clear hcz38_0
              try clear hcz38_1
              try clear hcz38_2
              try clear hcz40_0
              try clear hcz40_1
              try clear hcz40_2
              try clear hcz42_0
              try clear hcz42_1
              try clear hcz42_2
              try clear hcz49_0
              try clear hcz49_1
              try clear hcz49_2
              try clear hcz50_0
              try clear hcz50_1
              try clear hcz50_2
              try clear hcz64_0
              try clear hcz64_1
              try clear hcz66_0
              try clear hcz66_1
              try clear hcz66_2
              try clear hcz73_0
              try clear hcz73_1
              try clear hfz12_0
              try clear hfz12_1
              try clear hfz12_2
              try clear hfz17_0
              try clear hfz17_1
              try clear hfz17_2
              try clear hfz20_0
              try clear hfz20_1
              try clear hfz20_2
              try clear hfz22_0
              try clear hfz22_1
              try clear hfz22_2
              try clear hfz25_0
              try clear hfz25_1
              try clear hfz25_2
              try clear hfz33_0
              try clear hfz33_1
              try clear hfz33_2
              try clear hfz38_0
              try clear hfz38_1
              try clear hfz38_2
              try clear hfz40_0
              try clear hfz40_1
              try clear hfz40_2
              try clear hfz42_0
              try clear hfz42_1
              try clear hfz42_2
              try clear hfz49_0
              try clear hfz49_1
              try clear hfz49_2
              try clear hfz50_0
              try clear hfz50_1
              try clear hfz50_2
              try clear hfz64_0
              try clear hfz64_1
              try clear hfz66_0
              try clear hfz66_1
              try clear hfz66_2
              try clear hfz73_0
              try clear hfz73_1
              try clear hx407_0
              try clear hx407_1
              try clear p2
              try clear p407
              try clear p6
              try clear q407
              obtain ⟨x18_4, x19_4, x409000_4, x409001_4, u409000, u409001, rfl, rfl, HA, HK4, HO_3, HO_12, HO_13, HO_386000, HO_386002, HO_399000, HO_399002, HO_409000, HO_409001, HO_417000, HO_417001, BK385, BK398, BK408, BK416, HB⟩ := hrel
              cases gk with
              | zero => exact absurd HA.out (by simp [fullerlaw18_StoreCommits.l1])
              | succ k4 =>
               have H := HA.out
               clear HA
               simp only [fullerlaw18_StoreCommits.l1] at H
               by_cases c75 : x19_4 < (l3.length : Int)
               ·rw [if_pos c75] at H
                have c75b0 : decide (x19_4 < (l3.length : Int)) = true := decide_eq_true c75
                clear c75
                by_cases c76 : 0 ≤ x19_4
                ·rw [if_pos c76] at H
                 have c76b0 : decide (0 ≤ x19_4) = true := decide_eq_true c76
                 clear c76
                 by_cases c77 : ((rd_T42 l3 x19_4).f0) = x14_3
                 ·rw [if_pos c77] at H
                  obtain ⟨c77b0, c77b1⟩ := eqT_ c77
                  clear c77
                  have H' := Aside0.mk H
                  clear H
                  have p418 : 0 ≤ (x19_4 : Int) := od_
                  have q418 : x19_4 < (l3.length : Int) := od_
                  obtain ⟨ad418, A418_1, c418_1, A418_2, c418_2, e418, hx418_0, hx418_1, hx418_2, hl418_1, hi418_1, hl418_2, hi418_2⟩ := at_T42 (Kd.V_reads' HO_3.out).2.2 x19_4 p418 q418
                  cases e418
                  obtain ⟨ce418, hce418, hMe418, hcc418⟩ := Kd.V_get HO_3.out z42 x19_4 p418 (by first | exact q418 | exact od_ | (have e_ := (Kd.V_reads' HO_3.out).1; omega))
                  obtain ⟨ua418_1, uc418_1, ua418_2, uc418_2, rfl, ul418_1, ge418_1, ul418_2, ge418_2⟩ := k42_openF hMe418
                  have hv418_1 := hcc418 1 _ rfl
                  rw [add_field _ _ 1 (by omega)] at hv418_1
                  replace hv418_1 := Option.some.inj (hv418_1.symm.trans hx418_1)
                  injection hv418_1 with hva_ hvn_ hvc_
                  rw [hva_] at ge418_1
                  rw [hvc_] at ul418_1
                  have HL418_1 := Aside0.mk (show Kd.V (Kd.int .i64) 3 _ w.heap.size _ _ ((rd_T42 l3 x19_4).f1.f0) from Kd.V_mk ul418_1 ge418_1)
                  clear hva_ hvn_ hvc_ ge418_1 ul418_1
                  have hv418_2 := hcc418 2 _ rfl
                  rw [add_field _ _ 2 (by omega)] at hv418_2
                  replace hv418_2 := Option.some.inj (hv418_2.symm.trans hx418_2)
                  injection hv418_2 with hva_ hvn_ hvc_
                  rw [hva_] at ge418_2
                  rw [hvc_] at ul418_2
                  have HL418_2 := Aside0.mk (show Kd.V (Kd.int .i64) 3 _ w.heap.size _ _ ((rd_T42 l3 x19_4).f1.f1) from Kd.V_mk ul418_2 ge418_2)
                  clear hva_ hvn_ hvc_ ge418_2 ul418_2 hcc418 hce418
                  have HR418_1 := Aside0.mk hi418_1
                  have HC418_1 := Aside0.mk hl418_1
                  clear hi418_1 hl418_1
                  have HR418_2 := Aside0.mk hi418_2
                  have HC418_2 := Aside0.mk hl418_2
                  clear hi418_2 hl418_2
                  replace p418 := eq_true p418
                  replace q418 := eq_true q418
                  have p419 : 0 ≤ (x19_4 : Int) := od_
                  have q419 : x19_4 < (l3.length : Int) := od_
                  obtain ⟨ad419, A419_1, c419_1, A419_2, c419_2, e419, hx419_0, hx419_1, hx419_2, hl419_1, hi419_1, hl419_2, hi419_2⟩ := at_T42 (Kd.V_reads' HO_3.out).2.2 x19_4 p419 q419
                  obtain rfl : ad418 = ad419 := (by injection e419)
                  obtain ⟨ce419, hce419, hMe419, hcc419⟩ := Kd.V_get HO_3.out z42 x19_4 p419 (by first | exact q419 | exact od_ | (have e_ := (Kd.V_reads' HO_3.out).1; omega))
                  obtain ⟨ua419_1, uc419_1, ua419_2, uc419_2, rfl, ul419_1, ge419_1, ul419_2, ge419_2⟩ := k42_openF hMe419
                  have hv419_1 := hcc419 1 _ rfl
                  rw [add_field _ _ 1 (by omega)] at hv419_1
                  replace hv419_1 := Option.some.inj (hv419_1.symm.trans hx419_1)
                  injection hv419_1 with hva_ hvn_ hvc_
                  rw [hva_] at ge419_1
                  rw [hvc_] at ul419_1
                  have HL419_1 := Aside0.mk (show Kd.V (Kd.int .i64) 3 _ w.heap.size _ _ ((rd_T42 l3 x19_4).f1.f0) from Kd.V_mk ul419_1 ge419_1)
                  clear hva_ hvn_ hvc_ ge419_1 ul419_1
                  have hv419_2 := hcc419 2 _ rfl
                  rw [add_field _ _ 2 (by omega)] at hv419_2
                  replace hv419_2 := Option.some.inj (hv419_2.symm.trans hx419_2)
                  injection hv419_2 with hva_ hvn_ hvc_
                  rw [hva_] at ge419_2
                  rw [hvc_] at ul419_2
                  have HL419_2 := Aside0.mk (show Kd.V (Kd.int .i64) 3 _ w.heap.size _ _ ((rd_T42 l3 x19_4).f1.f1) from Kd.V_mk ul419_2 ge419_2)
                  clear hva_ hvn_ hvc_ ge419_2 ul419_2 hcc419 hce419
                  have HR419_1 := Aside0.mk hi419_1
                  have HC419_1 := Aside0.mk hl419_1
                  clear hi419_1 hl419_1
                  have HR419_2 := Aside0.mk hi419_2
                  have HC419_2 := Aside0.mk hl419_2
                  clear hi419_2 hl419_2
                  replace p419 := eq_true p419
                  replace q419 := eq_true q419
                  have ea_ := Option.some.inj (hx418_1.symm.trans hx419_1)
                  injection ea_ with ea_ en_ ec_
                  subst ea_
                  subst ec_
                  clear en_
                  have ea_ := Option.some.inj (hx418_2.symm.trans hx419_2)
                  injection ea_ with ea_ en_ ec_
                  subst ea_
                  subst ec_
                  clear en_
                  have hnb78 := NB408_385.out
                  have hnc78 := NB385_408.out
                  have hnb79 := NB408_398.out
                  have hnc79 := NB398_408.out
                  have hnb80 := NB408_416.out
                  have hnc80 := NB416_408.out
                  have hcz81_0 := cz0_ BK408.out
                  have hcz81_1 := cz1_ BK408.out
                  have hfz81_0 := blk_frozen BK408.out 0
                  have hfz81_1 := blk_frozen BK408.out 1
                  go_wp2
                  go_roundg k4
                  case measure => have := HJ5.out; have := HJ31.out; have := HK3.out; have := HK4.out; omega
                  case rel => exact ⟨(true), (wrap64 (x19_4 + 1)), ((rd_T42 l3 x19_4).f1.f0), ((rd_T42 l3 x19_4).f1.f1), (.slice A418_1 ((rd_T42 l3 x19_4).f1.f0).length c418_1), (.slice A418_2 ((rd_T42 l3 x19_4).f1.f1).length c418_2), (by first | rfl | (simp; done) | (simp [*]; done)), (by first | rfl | (simp; done) | (simp [*]; done)), H', ⟨by have := HJ5.out; have := HJ31.out; have := HK3.out; have := HK4.out; omega⟩, ⟨by (with_reducible repeat (first | apply Kd.V_alloc | apply Kd.V_drewN | apply Kd.V_drew)); exact Kd.V_mono (Kd.V_far (p := ⟨gb408, 1, none⟩) (Kd.V_far (p := ⟨gb408, 0, none⟩) (Kd.V_mono HO_3.out (fun k_ hk => (⟨hk, hk.2.2.2.1⟩ : _ ∧ k_ ≠ gb408))) (fun _ hk => hk.2) (.slice A418_1 ((rd_T42 l3 x19_4).f1.f0).length c418_1)) (fun _ hk => hk.2) (.slice A418_2 ((rd_T42 l3 x19_4).f1.f1).length c418_2)) (fun _ hk => ⟨hk.1.1, ⟨hk.1.2.1, ⟨hk.1.2.2.1, ⟨hk.1.2.2.2.1, hk.1.2.2.2.2⟩⟩⟩⟩)⟩, ⟨by (with_reducible repeat (first | apply Kd.R_alloc | apply Kd.R_drewN | apply Kd.R_drew)); exact Kd.R_mono (Kd.R_far (p := ⟨gb408, 1, none⟩) (Kd.R_far (p := ⟨gb408, 0, none⟩) (Kd.R_mono HO_12.out (fun k_ hk => (⟨hk, hk.2.1⟩ : _ ∧ k_ ≠ gb408))) (fun _ hk => hk.2) (.slice A418_1 ((rd_T42 l3 x19_4).f1.f0).length c418_1)) (fun _ hk => hk.2) (.slice A418_2 ((rd_T42 l3 x19_4).f1.f1).length c418_2)) (fun _ hk => ⟨hk.1.1, ⟨hk.1.2.1, hk.1.2.2⟩⟩)⟩, ⟨by (with_reducible repeat (first | apply Kd.R_alloc | apply Kd.R_drewN | apply Kd.R_drew)); exact Kd.R_mono (Kd.R_far (p := ⟨gb408, 1, none⟩) (Kd.R_far (p := ⟨gb408, 0, none⟩) (Kd.R_mono HO_13.out (fun k_ hk => (⟨hk, hk.2.1⟩ : _ ∧ k_ ≠ gb408))) (fun _ hk => hk.2) (.slice A418_1 ((rd_T42 l3 x19_4).f1.f0).length c418_1)) (fun _ hk => hk.2) (.slice A418_2 ((rd_T42 l3 x19_4).f1.f1).length c418_2)) (fun _ hk => ⟨hk.1.1, ⟨hk.1.2.1, hk.1.2.2⟩⟩)⟩, ⟨by (with_reducible repeat (first | apply Kd.V_alloc | apply Kd.V_drewN | apply Kd.V_drew)); exact Kd.V_mono (Kd.V_far (p := ⟨gb408, 1, none⟩) (Kd.V_far (p := ⟨gb408, 0, none⟩) (Kd.V_mono HO_386000.out (fun k_ hk => (⟨hk, hk.2.2.2.1⟩ : _ ∧ k_ ≠ gb408))) (fun _ hk => hk.2) (.slice A418_1 ((rd_T42 l3 x19_4).f1.f0).length c418_1)) (fun _ hk => hk.2) (.slice A418_2 ((rd_T42 l3 x19_4).f1.f1).length c418_2)) (fun _ hk => ⟨hk.1.1, ⟨hk.1.2.1, ⟨hk.1.2.2.1, ⟨hk.1.2.2.2.1, hk.1.2.2.2.2⟩⟩⟩⟩)⟩, ⟨by (with_reducible repeat (first | apply Kd.V_alloc | apply Kd.V_drewN | apply Kd.V_drew)); exact Kd.V_mono (Kd.V_far (p := ⟨gb408, 1, none⟩) (Kd.V_far (p := ⟨gb408, 0, none⟩) (Kd.V_mono HO_386002.out (fun k_ hk => (⟨hk, hk.2.2.2.1⟩ : _ ∧ k_ ≠ gb408))) (fun _ hk => hk.2) (.slice A418_1 ((rd_T42 l3 x19_4).f1.f0).length c418_1)) (fun _ hk => hk.2) (.slice A418_2 ((rd_T42 l3 x19_4).f1.f1).length c418_2)) (fun _ hk => ⟨hk.1.1, ⟨hk.1.2.1, ⟨hk.1.2.2.1, ⟨hk.1.2.2.2.1, hk.1.2.2.2.2⟩⟩⟩⟩)⟩, ⟨by (with_reducible repeat (first | apply Kd.V_alloc | apply Kd.V_drewN | apply Kd.V_drew)); exact Kd.V_mono (Kd.V_far (p := ⟨gb408, 1, none⟩) (Kd.V_far (p := ⟨gb408, 0, none⟩) (Kd.V_mono HO_399000.out (fun k_ hk => (⟨hk, hk.2.2.2.1⟩ : _ ∧ k_ ≠ gb408))) (fun _ hk => hk.2) (.slice A418_1 ((rd_T42 l3 x19_4).f1.f0).length c418_1)) (fun _ hk => hk.2) (.slice A418_2 ((rd_T42 l3 x19_4).f1.f1).length c418_2)) (fun _ hk => ⟨hk.1.1, ⟨hk.1.2.1, ⟨hk.1.2.2.1, ⟨hk.1.2.2.2.1, hk.1.2.2.2.2⟩⟩⟩⟩)⟩, ⟨by (with_reducible repeat (first | apply Kd.V_alloc | apply Kd.V_drewN | apply Kd.V_drew)); exact Kd.V_mono (Kd.V_far (p := ⟨gb408, 1, none⟩) (Kd.V_far (p := ⟨gb408, 0, none⟩) (Kd.V_mono HO_399002.out (fun k_ hk => (⟨hk, hk.2.2.2.1⟩ : _ ∧ k_ ≠ gb408))) (fun _ hk => hk.2) (.slice A418_1 ((rd_T42 l3 x19_4).f1.f0).length c418_1)) (fun _ hk => hk.2) (.slice A418_2 ((rd_T42 l3 x19_4).f1.f1).length c418_2)) (fun _ hk => ⟨hk.1.1, ⟨hk.1.2.1, ⟨hk.1.2.2.1, ⟨hk.1.2.2.2.1, hk.1.2.2.2.2⟩⟩⟩⟩)⟩, ⟨by (with_reducible repeat (first | apply Kd.V_alloc | apply Kd.V_drewN | apply Kd.V_drew)); exact Kd.V_mono (Kd.V_far (p := ⟨gb408, 1, none⟩) (Kd.V_far (p := ⟨gb408, 0, none⟩) (Kd.V_mono HL419_1.out (fun k_ hk => (⟨hk, hk.2.2.2.1⟩ : _ ∧ k_ ≠ gb408))) (fun _ hk => hk.2) (.slice A418_1 ((rd_T42 l3 x19_4).f1.f0).length c418_1)) (fun _ hk => hk.2) (.slice A418_2 ((rd_T42 l3 x19_4).f1.f1).length c418_2)) (fun _ hk => ⟨hk.1.1, ⟨hk.1.2.1, ⟨hk.1.2.2.1, ⟨hk.1.2.2.2.1, hk.1.2.2.2.2⟩⟩⟩⟩)⟩, ⟨by (with_reducible repeat (first | apply Kd.V_alloc | apply Kd.V_drewN | apply Kd.V_drew)); exact Kd.V_mono (Kd.V_far (p := ⟨gb408, 1, none⟩) (Kd.V_far (p := ⟨gb408, 0, none⟩) (Kd.V_mono HL419_2.out (fun k_ hk => (⟨hk, hk.2.2.2.1⟩ : _ ∧ k_ ≠ gb408))) (fun _ hk => hk.2) (.slice A418_1 ((rd_T42 l3 x19_4).f1.f0).length c418_1)) (fun _ hk => hk.2) (.slice A418_2 ((rd_T42 l3 x19_4).f1.f1).length c418_2)) (fun _ hk => ⟨hk.1.1, ⟨hk.1.2.1, ⟨hk.1.2.2.1, ⟨hk.1.2.2.2.1, hk.1.2.2.2.2⟩⟩⟩⟩)⟩, ⟨by (with_reducible repeat (first | apply Kd.R_alloc | apply Kd.R_drewN | apply Kd.R_drew)); exact Kd.R_mono (Kd.R_far (p := ⟨gb408, 1, none⟩) (Kd.R_far (p := ⟨gb408, 0, none⟩) (Kd.R_types HO_417000.out BK408.out (by decide)) (fun _ hk => hk.2) (.slice A418_1 ((rd_T42 l3 x19_4).f1.f0).length c418_1)) (fun _ hk => hk.2) (.slice A418_2 ((rd_T42 l3 x19_4).f1.f1).length c418_2)) (fun _ hk => hk.1)⟩, ⟨by (with_reducible repeat (first | apply Kd.R_alloc | apply Kd.R_drewN | apply Kd.R_drew)); exact Kd.R_mono (Kd.R_far (p := ⟨gb408, 1, none⟩) (Kd.R_far (p := ⟨gb408, 0, none⟩) (Kd.R_types HO_417001.out BK408.out (by decide)) (fun _ hk => hk.2) (.slice A418_1 ((rd_T42 l3 x19_4).f1.f0).length c418_1)) (fun _ hk => hk.2) (.slice A418_2 ((rd_T42 l3 x19_4).f1.f1).length c418_2)) (fun _ hk => hk.1)⟩, ⟨by (with_reducible repeat (first | refine blk_drewN ?_ _ | refine blk_drew ?_ | refine blk_alloc ?_ _)); refine blk_far ?_ NB385_408.out _; (with_reducible repeat (first | refine blk_drewN ?_ _ | refine blk_drew ?_ | refine blk_alloc ?_ _)); refine blk_far ?_ NB385_408.out _; (with_reducible repeat (first | refine blk_drewN ?_ _ | refine blk_drew ?_ | refine blk_alloc ?_ _)); exact BK385.out⟩, ⟨by (with_reducible repeat (first | refine blk_drewN ?_ _ | refine blk_drew ?_ | refine blk_alloc ?_ _)); refine blk_far ?_ NB398_408.out _; (with_reducible repeat (first | refine blk_drewN ?_ _ | refine blk_drew ?_ | refine blk_alloc ?_ _)); refine blk_far ?_ NB398_408.out _; (with_reducible repeat (first | refine blk_drewN ?_ _ | refine blk_drew ?_ | refine blk_alloc ?_ _)); exact BK398.out⟩, ⟨by (with_reducible repeat (first | refine blk_drewN ?_ _ | refine blk_drew ?_ | refine blk_alloc ?_ _)); refine blk_put (cs := #[.slice A418_1 ((rd_T42 l3 x19_4).f1.f0).length c418_1, u409001]) ?_ 1 _ rfl; (with_reducible repeat (first | refine blk_drewN ?_ _ | refine blk_drew ?_ | refine blk_alloc ?_ _)); refine blk_put (cs := #[u409000, u409001]) ?_ 0 _ rfl; (with_reducible repeat (first | refine blk_drewN ?_ _ | refine blk_drew ?_ | refine blk_alloc ?_ _)); exact BK408.out⟩, ⟨by (with_reducible repeat (first | refine blk_drewN ?_ _ | refine blk_drew ?_ | refine blk_alloc ?_ _)); refine blk_far ?_ NB416_408.out _; (with_reducible repeat (first | refine blk_drewN ?_ _ | refine blk_drew ?_ | refine blk_alloc ?_ _)); refine blk_far ?_ NB416_408.out _; (with_reducible repeat (first | refine blk_drewN ?_ _ | refine blk_drew ?_ | refine blk_alloc ?_ _)); exact BK416.out⟩, ⟨bq4_ HB.out GE385.out GE398.out GE408.out GE416.out⟩⟩
                 ·rw [if_neg c77] at H
                  have c77b0 : (((rd_T42 l3 x19_4).f0) == x14_3) = false := beq_eq_false_iff_ne.mpr c77
                  have c77b1 : (((rd_T42 l3 x19_4).f0) != x14_3) = true := bne_iff_ne.mpr c77
                  have H' := Aside0.mk H
                  clear H
                  have p418 : 0 ≤ (x19_4 : Int) := od_
                  have q418 : x19_4 < (l3.length : Int) := od_
                  obtain ⟨ad418, A418_1, c418_1, A418_2, c418_2, e418, hx418_0, hx418_1, hx418_2, hl418_1, hi418_1, hl418_2, hi418_2⟩ := at_T42 (Kd.V_reads' HO_3.out).2.2 x19_4 p418 q418
                  cases e418
                  obtain ⟨ce418, hce418, hMe418, hcc418⟩ := Kd.V_get HO_3.out z42 x19_4 p418 (by first | exact q418 | exact od_ | (have e_ := (Kd.V_reads' HO_3.out).1; omega))
                  obtain ⟨ua418_1, uc418_1, ua418_2, uc418_2, rfl, ul418_1, ge418_1, ul418_2, ge418_2⟩ := k42_openF hMe418
                  have hv418_1 := hcc418 1 _ rfl
                  rw [add_field _ _ 1 (by omega)] at hv418_1
                  replace hv418_1 := Option.some.inj (hv418_1.symm.trans hx418_1)
                  injection hv418_1 with hva_ hvn_ hvc_
                  rw [hva_] at ge418_1
                  rw [hvc_] at ul418_1
                  have HL418_1 := Aside0.mk (show Kd.V (Kd.int .i64) 3 _ w.heap.size _ _ ((rd_T42 l3 x19_4).f1.f0) from Kd.V_mk ul418_1 ge418_1)
                  clear hva_ hvn_ hvc_ ge418_1 ul418_1
                  have hv418_2 := hcc418 2 _ rfl
                  rw [add_field _ _ 2 (by omega)] at hv418_2
                  replace hv418_2 := Option.some.inj (hv418_2.symm.trans hx418_2)
                  injection hv418_2 with hva_ hvn_ hvc_
                  rw [hva_] at ge418_2
                  rw [hvc_] at ul418_2
                  have HL418_2 := Aside0.mk (show Kd.V (Kd.int .i64) 3 _ w.heap.size _ _ ((rd_T42 l3 x19_4).f1.f1) from Kd.V_mk ul418_2 ge418_2)
                  clear hva_ hvn_ hvc_ ge418_2 ul418_2 hcc418 hce418
                  have HR418_1 := Aside0.mk hi418_1
                  have HC418_1 := Aside0.mk hl418_1
                  clear hi418_1 hl418_1
                  have HR418_2 := Aside0.mk hi418_2
                  have HC418_2 := Aside0.mk hl418_2
                  clear hi418_2 hl418_2
                  replace p418 := eq_true p418
                  replace q418 := eq_true q418
                  go_wp2
                  go_roundg k4
                  case measure => have := HJ5.out; have := HJ31.out; have := HK3.out; have := HK4.out; omega
                  case rel => exact ⟨(x18_4), (wrap64 (x19_4 + 1)), (x409000_4), (x409001_4), (u409000), (u409001), (by first | rfl | (simp; done) | (simp [*]; done)), (by first | rfl | (simp; done) | (simp [*]; done)), H', ⟨by have := HJ5.out; have := HJ31.out; have := HK3.out; have := HK4.out; omega⟩, ⟨mvV_ HO_3.out⟩, ⟨mvR_ HO_12.out⟩, ⟨mvR_ HO_13.out⟩, ⟨mvV_ HO_386000.out⟩, ⟨mvV_ HO_386002.out⟩, ⟨mvV_ HO_399000.out⟩, ⟨mvV_ HO_399002.out⟩, ⟨mvV_ HO_409000.out⟩, ⟨mvV_ HO_409001.out⟩, ⟨mvR_ HO_417000.out⟩, ⟨mvR_ HO_417001.out⟩, ⟨by (with_reducible repeat (first | refine blk_drewN ?_ _ | refine blk_drew ?_ | refine blk_alloc ?_ _)); exact BK385.out⟩, ⟨by (with_reducible repeat (first | refine blk_drewN ?_ _ | refine blk_drew ?_ | refine blk_alloc ?_ _)); exact BK398.out⟩, ⟨by (with_reducible repeat (first | refine blk_drewN ?_ _ | refine blk_drew ?_ | refine blk_alloc ?_ _)); exact BK408.out⟩, ⟨by (with_reducible repeat (first | refine blk_drewN ?_ _ | refine blk_drew ?_ | refine blk_alloc ?_ _)); exact BK416.out⟩, ⟨bq4_ HB.out GE385.out GE398.out GE408.out GE416.out⟩⟩
                ·rw [if_neg c76] at H
                 exact absurd H (by simp)
               ·rw [if_neg c75] at H
                have c75b0 : decide (x19_4 < (l3.length : Int)) = false := decide_eq_false c75
                clear c75
                have HC82 := Aside0.mk H
                clear H
                go_upto_region 23 with (fail)
                go_cut [134] (fun v134 wc => ∃ (kq : Nat) (x134_81 : Bool), v134 = .bool x134_81 ∧ Aside0 (fullerlaw18_StoreCommits.j4 kq a1 l2 l3 t386 t399 t403 x14_3 x134_81 l0_0 a0_1 l0_2 = some r) ∧ Aside0 (kq ≤ k4) ∧ Aside0 (Kd.V k42 42 wc w.heap.size (fun k_ => ((P0_0_ k_ ∨ P0_2_ k_ ∨ P3_ k_) ∨ w.heap.size ≤ k_) ∧ k_ ≠ gb385 ∧ k_ ≠ gb398 ∧ k_ ≠ gb408 ∧ k_ ≠ gb416) (.slice A3 l3.length c3) l3) ∧ Aside0 (Kd.R k37 37 wc w.heap.size (fun k_ => (w.heap.size ≤ k_) ∧ k_ ≠ gb408 ∧ k_ ≠ gb416) (.slice (some ad407) t399.length co60) t399) ∧ Aside0 (Kd.R k37 37 wc w.heap.size (fun k_ => (w.heap.size ≤ k_) ∧ k_ ≠ gb408 ∧ k_ ≠ gb416) v404 t403) ∧ Aside0 (Kd.V (Kd.slice 74 k74) 54 wc w.heap.size (fun k_ => ((P0_0_ k_ ∨ P0_2_ k_ ∨ P3_ k_) ∨ w.heap.size ≤ k_) ∧ k_ ≠ gb385 ∧ k_ ≠ gb398 ∧ k_ ≠ gb408 ∧ k_ ≠ gb416) (.slice A0_0 l0_0.length c0_0) l0_0) ∧ Aside0 (Kd.V (Kd.int .i64) 3 wc w.heap.size (fun k_ => ((P0_0_ k_ ∨ P0_2_ k_ ∨ P3_ k_) ∨ w.heap.size ≤ k_) ∧ k_ ≠ gb385 ∧ k_ ≠ gb398 ∧ k_ ≠ gb408 ∧ k_ ≠ gb416) (.slice A0_2 l0_2.length c0_2) l0_2) ∧ Aside0 (Kd.V (Kd.slice 74 k74) 54 wc w.heap.size (fun k_ => ((P0_0_ k_ ∨ P0_2_ k_ ∨ P3_ k_) ∨ w.heap.size ≤ k_) ∧ k_ ≠ gb385 ∧ k_ ≠ gb398 ∧ k_ ≠ gb408 ∧ k_ ≠ gb416) (.slice Ao36 t390.length co36) t390) ∧ Aside0 (Kd.V (Kd.int .i64) 3 wc w.heap.size (fun k_ => ((P0_0_ k_ ∨ P0_2_ k_ ∨ P3_ k_) ∨ w.heap.size ≤ k_) ∧ k_ ≠ gb385 ∧ k_ ≠ gb398 ∧ k_ ≠ gb408 ∧ k_ ≠ gb416) (.slice Ao39 t394.length co39) t394) ∧ Aside0 (Kd.V (Kd.int .i64) 3 wc w.heap.size (fun k_ => ((P0_0_ k_ ∨ P0_2_ k_ ∨ P3_ k_) ∨ w.heap.size ≤ k_) ∧ k_ ≠ gb385 ∧ k_ ≠ gb398 ∧ k_ ≠ gb408 ∧ k_ ≠ gb416) u409000 x409000_4) ∧ Aside0 (Kd.V (Kd.int .i64) 3 wc w.heap.size (fun k_ => ((P0_0_ k_ ∨ P0_2_ k_ ∨ P3_ k_) ∨ w.heap.size ≤ k_) ∧ k_ ≠ gb385 ∧ k_ ≠ gb398 ∧ k_ ≠ gb408 ∧ k_ ≠ gb416) u409001 x409001_4) ∧ Aside0 (Kd.R (Kd.int .i64) 3 wc w.heap.size (fun k_ => (w.heap.size ≤ k_)) (.slice Ao69 t409.length co69) t409) ∧ Aside0 (Kd.R (Kd.int .i64) 3 wc w.heap.size (fun k_ => (w.heap.size ≤ k_)) (.slice Ao74 t412.length co74) t412) ∧ Aside0 (wc.heap[gb385]? = some (.cells #[(.slice A0_0 l0_0.length c0_0), .int .i64 a0_1, (.slice A0_2 l0_2.length c0_2)] 25 (0, 0))) ∧ Aside0 (wc.heap[gb398]? = some (.cells #[(.slice Ao36 t390.length co36), .int .i64 t393, (.slice Ao39 t394.length co39)] 25 (0, 0))) ∧ Aside0 (wc.heap[gb408]? = some (.cells #[u409000, u409001] 37 (0, 0))) ∧ Aside0 (wc.heap[gb416]? = some (.cells #[(.slice Ao69 t409.length co69), (.slice Ao74 t412.length co74)] 37 (0, 0))) ∧ Aside0 (Below w.heap.size w wc))
                case first =>
                 have H := HC82.out
                 clear HC82
                 by_cases c83 : 0 ≤ x14_3
                 ·rw [if_pos c83] at H
                  have c83b0 : decide (0 ≤ x14_3) = true := decide_eq_true c83
                  clear c83
                  (first | rw [c83b0] | (simp only [i64_w, i32_w]; rw [c83b0]) | rw [c83b1] | skip)
                  by_cases c84 : x14_3 < (t403.length : Int)
                  ·rw [if_pos c84] at H
                   have c84b0 : decide (x14_3 < (t403.length : Int)) = true := decide_eq_true c84
                   clear c84
                   replace H := Option.bind_eq_some_iff.mp H
                   obtain ⟨t421, A850, H⟩ := H
                   replace H : (if t421 = true then (if x18_4 = true then (if x14_3 < (t399.length : Int) then ((fullerref03_Same.f k4 ((rd_T37 t399 x14_3).f0) ((rd_T37 t399 x14_3).f1) t409 t412).bind fun t423 => (fullerlaw18_StoreCommits.j4 k4 a1 l2 l3 t386 t399 t403 x14_3 (!t423) l0_0 a0_1 l0_2)) else (none)) else (fullerlaw18_StoreCommits.j4 k4 a1 l2 l3 t386 t399 t403 x14_3 false l0_0 a0_1 l0_2)) else (fullerlaw18_StoreCommits.j4 k4 a1 l2 l3 t386 t399 t403 x14_3 true l0_0 a0_1 l0_2)) = some r := H
                   have A85 := Aside0.mk A850
                   clear A850
                   by_cases c86 : t421 = true
                   ·subst c86
                    have H1 : (if x18_4 = true then (if x14_3 < (t399.length : Int) then ((fullerref03_Same.f k4 ((rd_T37 t399 x14_3).f0) ((rd_T37 t399 x14_3).f1) t409 t412).bind fun t423 => (fullerlaw18_StoreCommits.j4 k4 a1 l2 l3 t386 t399 t403 x14_3 (!t423) l0_0 a0_1 l0_2)) else (none)) else (fullerlaw18_StoreCommits.j4 k4 a1 l2 l3 t386 t399 t403 x14_3 false l0_0 a0_1 l0_2)) = some r := by rw [if_pos rfl] at H; exact H
                    clear H
                    have H := H1
                    clear H1
                    by_cases c87 : x18_4 = true
                    ·subst c87
                     have H1 : (if x14_3 < (t399.length : Int) then ((fullerref03_Same.f k4 ((rd_T37 t399 x14_3).f0) ((rd_T37 t399 x14_3).f1) t409 t412).bind fun t423 => (fullerlaw18_StoreCommits.j4 k4 a1 l2 l3 t386 t399 t403 x14_3 (!t423) l0_0 a0_1 l0_2)) else (none)) = some r := by rw [if_pos rfl] at H; exact H
                     clear H
                     have H := H1
                     clear H1
                     by_cases c88 : x14_3 < (t399.length : Int)
                     ·rw [if_pos c88] at H
                      have c88b0 : decide (x14_3 < (t399.length : Int)) = true := decide_eq_true c88
                      clear c88
                      replace H := Option.bind_eq_some_iff.mp H
                      obtain ⟨t423, A890, H⟩ := H
                      replace H : (fullerlaw18_StoreCommits.j4 k4 a1 l2 l3 t386 t399 t403 x14_3 (!t423) l0_0 a0_1 l0_2) = some r := H
                      have A89 := Aside0.mk A890
                      clear A890
                      have H' := Aside0.mk H
                      clear H
                      try go_wp2
                      replace HO_3 := Aside0.mk (Kd.V_drew HO_3.out)
                      replace HO_12 := Aside0.mk (Kd.R_drew HO_12.out)
                      replace HO_13 := Aside0.mk (Kd.R_drew HO_13.out)
                      replace HO_386000 := Aside0.mk (Kd.V_drew HO_386000.out)
                      replace HO_386002 := Aside0.mk (Kd.V_drew HO_386002.out)
                      replace HO_399000 := Aside0.mk (Kd.V_drew HO_399000.out)
                      replace HO_399002 := Aside0.mk (Kd.V_drew HO_399002.out)
                      replace HO_409000 := Aside0.mk (Kd.V_drew HO_409000.out)
                      replace HO_409001 := Aside0.mk (Kd.V_drew HO_409001.out)
                      replace HO_417000 := Aside0.mk (Kd.R_drew HO_417000.out)
                      replace HO_417001 := Aside0.mk (Kd.R_drew HO_417001.out)
                      replace BK385 := Aside0.mk (blk_drew BK385.out)
                      replace BK398 := Aside0.mk (blk_drew BK398.out)
                      replace BK408 := Aside0.mk (blk_drew BK408.out)
                      replace BK416 := Aside0.mk (blk_drew BK416.out)
                      replace HB := Aside0.mk (below_drew1 HB.out)
                      obtain ⟨Ao91, co91, eo91⟩ := Kd.R_slice HO_13.out
                      (first | subst eo91 | (injection eo91 with f1_ f2_ f3_; have f4_ := f1_.symm; have f5_ := f3_.symm; clear f1_ f2_ f3_; subst f4_; subst f5_))
                      have p420 : 0 ≤ (x14_3 : Int) := od_
                      have q420 : x14_3 < (t403.length : Int) := od_
                      obtain ⟨ad420, A420_0, c420_0, A420_1, c420_1, e420, hx420_0, hx420_1, hl420_0, hi420_0, hl420_1, hi420_1⟩ := at_T37 (Kd.R_reads' HO_13.out).2.2 x14_3 p420 q420
                      cases e420
                      obtain ⟨ce420, hce420, hMe420, hcc420⟩ := Kd.R_get HO_13.out z37 x14_3 p420 (by first | exact q420 | exact od_ | (have e_ := (Kd.R_reads' HO_13.out).1; omega))
                      obtain ⟨ve420_0, ve420_1, rfl, ge420_0, ge420_1⟩ := k37_openM hMe420
                      have hv420_0 := hcc420 0 _ rfl
                      rw [Nat.add_zero] at hv420_0
                      replace hv420_0 := Option.some.inj (hv420_0.symm.trans hx420_0)
                      rw [hv420_0] at ge420_0
                      have HL420_0 := Aside0.mk (show Kd.R (Kd.int .i64) 3 _ _ _ _ ((rd_T37 t403 x14_3).f0) from ge420_0)
                      clear hv420_0 ge420_0
                      have hv420_1 := hcc420 1 _ rfl
                      rw [add_field _ _ 1 (by omega)] at hv420_1
                      replace hv420_1 := Option.some.inj (hv420_1.symm.trans hx420_1)
                      rw [hv420_1] at ge420_1
                      have HL420_1 := Aside0.mk (show Kd.R (Kd.int .i64) 3 _ _ _ _ ((rd_T37 t403 x14_3).f1) from ge420_1)
                      clear hv420_1 ge420_1 hcc420 hce420
                      have HR420_0 := Aside0.mk hi420_0
                      have HC420_0 := Aside0.mk hl420_0
                      clear hi420_0 hl420_0
                      have HR420_1 := Aside0.mk hi420_1
                      have HC420_1 := Aside0.mk hl420_1
                      clear hi420_1 hl420_1
                      replace p420 := eq_true p420
                      replace q420 := eq_true q420
                      obtain ⟨Ao92, co92, eo92⟩ := Kd.V_slice HO_409000.out
                      (first | subst eo92 | (injection eo92 with f1_ f2_ f3_; have f4_ := f1_.symm; have f5_ := f3_.symm; clear f1_ f2_ f3_; subst f4_; subst f5_))
                      obtain ⟨Ao93, co93, eo93⟩ := Kd.V_slice HO_409001.out
                      (first | subst eo93 | (injection eo93 with f1_ f2_ f3_; have f4_ := f1_.symm; have f5_ := f3_.symm; clear f1_ f2_ f3_; subst f4_; subst f5_))
                      have p422 : 0 ≤ (x14_3 : Int) := od_
                      have q422 : x14_3 < (t399.length : Int) := od_
                      obtain ⟨ad422, A422_0, c422_0, A422_1, c422_1, e422, hx422_0, hx422_1, hl422_0, hi422_0, hl422_1, hi422_1⟩ := at_T37 (Kd.R_reads' HO_12.out).2.2 x14_3 p422 q422
                      obtain rfl : ad407 = ad422 := (by injection e422)
                      obtain ⟨ce422, hce422, hMe422, hcc422⟩ := Kd.R_get HO_12.out z37 x14_3 p422 (by first | exact q422 | exact od_ | (have e_ := (Kd.R_reads' HO_12.out).1; omega))
                      obtain ⟨ve422_0, ve422_1, rfl, ge422_0, ge422_1⟩ := k37_openM hMe422
                      have hv422_0 := hcc422 0 _ rfl
                      rw [Nat.add_zero] at hv422_0
                      replace hv422_0 := Option.some.inj (hv422_0.symm.trans hx422_0)
                      rw [hv422_0] at ge422_0
                      have HL422_0 := Aside0.mk (show Kd.R (Kd.int .i64) 3 _ _ _ _ ((rd_T37 t399 x14_3).f0) from ge422_0)
                      clear hv422_0 ge422_0
                      have hv422_1 := hcc422 1 _ rfl
                      rw [add_field _ _ 1 (by omega)] at hv422_1
                      replace hv422_1 := Option.some.inj (hv422_1.symm.trans hx422_1)
                      rw [hv422_1] at ge422_1
                      have HL422_1 := Aside0.mk (show Kd.R (Kd.int .i64) 3 _ _ _ _ ((rd_T37 t399 x14_3).f1) from ge422_1)
                      clear hv422_1 ge422_1 hcc422 hce422
                      have HR422_0 := Aside0.mk hi422_0
                      have HC422_0 := Aside0.mk hl422_0
                      clear hi422_0 hl422_0
                      have HR422_1 := Aside0.mk hi422_1
                      have HC422_1 := Aside0.mk hl422_1
                      clear hi422_1 hl422_1
                      replace p422 := eq_true p422
                      replace q422 := eq_true q422
                      refine start_ (n := 19) (S := fun w' => w'.cell? ⟨gb408, 0, none⟩ = some (.slice Ao92 x409000_4.length co92) ∧ w'.cell? ⟨gb408, 1, none⟩ = some (.slice Ao93 x409001_4.length co93) ∧ w'.cell? ⟨gb416, 0, none⟩ = some (.slice Ao69 t409.length co69) ∧ w'.cell? ⟨gb416, 1, none⟩ = some (.slice Ao74 t412.length co74) ∧ w'.cell? (ad420.add ((x14_3).toNat * 2)) = some (.slice A420_0 ((rd_T37 t403 x14_3).f0).length c420_0) ∧ w'.cell? ⟨(ad420.add ((x14_3).toNat * 2)).block, (ad420.add ((x14_3).toNat * 2)).off + 1, none⟩ = some (.slice A420_1 ((rd_T37 t403 x14_3).f1).length c420_1) ∧ w'.cell? (ad407.add ((x14_3).toNat * 2)) = some (.slice A422_0 ((rd_T37 t399 x14_3).f0).length c422_0) ∧ w'.cell? ⟨(ad407.add ((x14_3).toNat * 2)).block, (ad407.add ((x14_3).toNat * 2)).off + 1, none⟩ = some (.slice A422_1 ((rd_T37 t399 x14_3).f1).length c422_1)) (ds := []) L3_0 (by kernel_rfl) rfl rfl ⟨(blk_cell BK408.out 0).trans rfl, (blk_cell BK408.out 1).trans rfl, (blk_cell BK416.out 0).trans rfl, (blk_cell BK416.out 1).trans rfl, hx420_0, hx420_1, hx422_0, hx422_1⟩ (fun hHeld => ?_); refine with_tabW fullerlaw18_StoreCommits.tab23 fullerlaw18_StoreCommits.bits23 (fun HT_ HW_ => ?_)
                      generalize wr.drew = w90 at HO_3 HO_12 HO_13 HO_386000 HO_386002 HO_399000 HO_399002 HO_409000 HO_409001 HO_417000 HO_417001 BK385 BK398 BK408 BK416 HB HL420_0 HL420_1 HL422_0 HL422_1 HR420_0 HR420_1 HR422_0 HR422_1 hx420_0 hx420_1 hx422_0 hx422_1 hHeld ⊢
                      refine pu_ 0 (some 116) L3_1 HT_ ?_
                      refine pu_ 1 (some 117) L3_2 HT_ ?_
                      refine pu_ 2 (some 118) L3_3 HT_ ?_
                      refine ta_ 3 (some 119) L3_4 HT_ HW_ hHeld ?_ (hy := by rintro w' ⟨s0, s1, s2, s3, s4, s5, s6, s7⟩; go_simp; with_reducible rfl)
                      refine ta_ 4 (some 120) L3_5 HT_ HW_ hHeld ?_ (hy := by rintro w' ⟨s0, s1, s2, s3, s4, s5, s6, s7⟩; go_simp; with_reducible rfl)
                      refine one_ (i := 5) (N := some 121) L3_6 rfl rfl (one_of HT_.out (by kernel_rfl)) (by decide) (fun K hK => ?_)
                      refine goes_ Try.func15 (by kernel_rfl) rfl #[.agg #[.slice A420_0 ((rd_T37 t403 x14_3).f0).length c420_0, .slice A420_1 ((rd_T37 t403 x14_3).f1).length c420_1], .agg #[.slice Ao92 x409000_4.length co92, .slice Ao93 x409001_4.length co93]] (by rfl) rfl rfl (by (try simp only [List.map_toArray, List.map_cons, List.map_nil]); first | done | rfl | (simp only [List.length_drop, List.length_take]; rfl)) ?_
                      with_reducible refine (fullerref03_Same.calls k4 _ _ ((rd_T37 t403 x14_3).f0) _ _ ((rd_T37 t403 x14_3).f1) _ _ x409000_4 _ _ x409001_4 true _ ?side1 ?side2 ?side3 ?side4 ?side5 ?side6 ?side7 ?side8 A85.out).mono ?_
                      (case side1 => repeat (first | exact (by repeat (first | (with_reducible exact HR420_0.out) | (with_reducible refine Kd.C_alloc ?_ _) | (with_reducible refine Kd.C_drewN ?_ _) | (with_reducible refine Kd.C_drew ?_) | exact HR420_0.out)) | (with_reducible refine Kd.C_alloc ?_ _) | (with_reducible refine Kd.C_drewN ?_ _) | (with_reducible refine Kd.C_drew ?_)))
                      (case side2 => exact HC420_0.out)
                      (case side3 => repeat (first | exact (by repeat (first | (with_reducible exact HR420_1.out) | (with_reducible refine Kd.C_alloc ?_ _) | (with_reducible refine Kd.C_drewN ?_ _) | (with_reducible refine Kd.C_drew ?_) | exact HR420_1.out)) | (with_reducible refine Kd.C_alloc ?_ _) | (with_reducible refine Kd.C_drewN ?_ _) | (with_reducible refine Kd.C_drew ?_)))
                      (case side4 => exact HC420_1.out)
                      (case side5 => exact mvC_ ((Kd.V_reads' HO_409000.out).2.2))
                      (case side6 => exact (Kd.V_reads' HO_409000.out).2.1)
                      (case side7 => exact mvC_ ((Kd.V_reads' HO_409001.out).2.2))
                      (case side8 => exact (Kd.V_reads' HO_409001.out).2.1)
                      rintro e w94 ⟨rfl, hb⟩
                      have HS4_ := (hb.cell (World.block_lt_of_cell? _ _ (hHeld.2.2.2.2.1))).trans (hHeld.2.2.2.2.1)
                      have HS5_ := (hb.cell (World.block_lt_of_cell? _ _ (hHeld.2.2.2.2.2.1))).trans (hHeld.2.2.2.2.2.1)
                      have HS6_ := (hb.cell (World.block_lt_of_cell? _ _ (hHeld.2.2.2.2.2.2.1))).trans (hHeld.2.2.2.2.2.2.1)
                      have HS7_ := (hb.cell (World.block_lt_of_cell? _ _ (hHeld.2.2.2.2.2.2.2))).trans (hHeld.2.2.2.2.2.2.2)
                      refine ⟨_, rfl, ?_⟩
                      replace HO_3 := mbV_ HO_3.out hb
                      replace HO_12 := mbR_ HO_12.out hb
                      replace HO_13 := mbR_ HO_13.out hb
                      replace HO_386000 := mbV_ HO_386000.out hb
                      replace HO_386002 := mbV_ HO_386002.out hb
                      replace HO_399000 := mbV_ HO_399000.out hb
                      replace HO_399002 := mbV_ HO_399002.out hb
                      replace HO_409000 := mbV_ HO_409000.out hb
                      replace HO_409001 := mbV_ HO_409001.out hb
                      replace HO_417000 := mbR_ HO_417000.out hb
                      replace HO_417001 := mbR_ HO_417001.out hb
                      replace HL420_0 := mbR_ HL420_0.out hb
                      replace HL420_1 := mbR_ HL420_1.out hb
                      replace BK385 := mvB_ BK385.out hb
                      replace BK398 := mvB_ BK398.out hb
                      replace BK408 := mvB_ BK408.out hb
                      replace BK416 := mvB_ BK416.out hb
                      replace HR420_0 := Aside0.mk (Kd.C_below (mvC_ HR420_0.out) hb)
                      replace HR420_1 := Aside0.mk (Kd.C_below (mvC_ HR420_1.out) hb)
                      replace HL422_0 := mbR_ HL422_0.out hb
                      replace HL422_1 := mbR_ HL422_1.out hb
                      replace HR422_0 := Aside0.mk (Kd.C_below (mvC_ HR422_0.out) hb)
                      replace HR422_1 := Aside0.mk (Kd.C_below (mvC_ HR422_1.out) hb)
                      replace HB := Aside0.mk (below_step (bq4_ HB.out GE385.out GE398.out GE408.out GE416.out) hb)
                      (try clear hb)
                      (try clear hb2)
                      (try clear hk)
                      (try clear hi)
                      refine hK.out _ _ ⟨(blk_cell BK408.out 0).trans rfl, (blk_cell BK408.out 1).trans rfl, (blk_cell BK416.out 0).trans rfl, (blk_cell BK416.out 1).trans rfl, HS4_, HS5_, HS6_, HS7_⟩ (fun hHeld => ?_)
                      clear hK K
                      refine norm_ (a' := ?_) ?_ ?_
                      rotate_left
                      ·show Act.put _ (some 121) _ = _
                       simp only [Act.put, sA_, sB_, sC_, i64_w, i32_w]
                       rfl
                      refine pu_ 6 (some 122) L3_7 HT_ ?_
                      refine pu_ 7 (some 123) L3_8 HT_ ?_
                      refine pu_ 8 (some 124) L3_9 HT_ ?_
                      refine pu_ 9 (some 125) L3_10 HT_ ?_
                      refine pu_ 10 (some 126) L3_11 HT_ ?_
                      refine pu_ 11 (some 127) L3_12 HT_ ?_
                      refine pu_ 12 (some 128) L3_13 HT_ ?_
                      refine ta_ 13 (some 129) L3_14 HT_ HW_ hHeld ?_ (hy := by rintro w' ⟨s0, s1, s2, s3, s4, s5, s6, s7⟩; go_simp; with_reducible rfl)
                      refine ta_ 14 (some 130) L3_15 HT_ HW_ hHeld ?_ (hy := by rintro w' ⟨s0, s1, s2, s3, s4, s5, s6, s7⟩; go_simp; with_reducible rfl)
                      refine one_ (i := 15) (N := some 131) L3_16 rfl rfl (one_of HT_.out (by kernel_rfl)) (by decide) (fun K hK => ?_)
                      refine goes_ Try.func15 (by kernel_rfl) rfl #[.agg #[.slice A422_0 ((rd_T37 t399 x14_3).f0).length c422_0, .slice A422_1 ((rd_T37 t399 x14_3).f1).length c422_1], .agg #[.slice Ao69 t409.length co69, .slice Ao74 t412.length co74]] (by rfl) rfl rfl (by (try simp only [List.map_toArray, List.map_cons, List.map_nil]); first | done | rfl | (simp only [List.length_drop, List.length_take]; rfl)) ?_
                      with_reducible refine (fullerref03_Same.calls k4 _ _ ((rd_T37 t399 x14_3).f0) _ _ ((rd_T37 t399 x14_3).f1) _ _ t409 _ _ t412 t423 _ ?side1 ?side2 ?side3 ?side4 ?side5 ?side6 ?side7 ?side8 A89.out).mono ?_
                      (case side1 => repeat (first | exact (by repeat (first | (with_reducible exact HR422_0.out) | (with_reducible refine Kd.C_alloc ?_ _) | (with_reducible refine Kd.C_drewN ?_ _) | (with_reducible refine Kd.C_drew ?_) | exact HR422_0.out)) | (with_reducible refine Kd.C_alloc ?_ _) | (with_reducible refine Kd.C_drewN ?_ _) | (with_reducible refine Kd.C_drew ?_)))
                      (case side2 => exact HC422_0.out)
                      (case side3 => repeat (first | exact (by repeat (first | (with_reducible exact HR422_1.out) | (with_reducible refine Kd.C_alloc ?_ _) | (with_reducible refine Kd.C_drewN ?_ _) | (with_reducible refine Kd.C_drew ?_) | exact HR422_1.out)) | (with_reducible refine Kd.C_alloc ?_ _) | (with_reducible refine Kd.C_drewN ?_ _) | (with_reducible refine Kd.C_drew ?_)))
                      (case side4 => exact HC422_1.out)
                      (case side5 => exact mvC_ ((Kd.R_reads' HO_417000.out).2.2))
                      (case side6 => exact (Kd.R_reads' HO_417000.out).2.1)
                      (case side7 => exact mvC_ ((Kd.R_reads' HO_417001.out).2.2))
                      (case side8 => exact (Kd.R_reads' HO_417001.out).2.1)
                      rintro e w95 ⟨rfl, hb⟩
                      have HS4_ := (hb.cell (World.block_lt_of_cell? _ _ (hHeld.2.2.2.2.1))).trans (hHeld.2.2.2.2.1)
                      have HS5_ := (hb.cell (World.block_lt_of_cell? _ _ (hHeld.2.2.2.2.2.1))).trans (hHeld.2.2.2.2.2.1)
                      have HS6_ := (hb.cell (World.block_lt_of_cell? _ _ (hHeld.2.2.2.2.2.2.1))).trans (hHeld.2.2.2.2.2.2.1)
                      have HS7_ := (hb.cell (World.block_lt_of_cell? _ _ (hHeld.2.2.2.2.2.2.2))).trans (hHeld.2.2.2.2.2.2.2)
                      refine ⟨_, rfl, ?_⟩
                      replace HO_3 := mbV_ HO_3.out hb
                      replace HO_12 := mbR_ HO_12.out hb
                      replace HO_13 := mbR_ HO_13.out hb
                      replace HO_386000 := mbV_ HO_386000.out hb
                      replace HO_386002 := mbV_ HO_386002.out hb
                      replace HO_399000 := mbV_ HO_399000.out hb
                      replace HO_399002 := mbV_ HO_399002.out hb
                      replace HO_409000 := mbV_ HO_409000.out hb
                      replace HO_409001 := mbV_ HO_409001.out hb
                      replace HO_417000 := mbR_ HO_417000.out hb
                      replace HO_417001 := mbR_ HO_417001.out hb
                      replace HL420_0 := mbR_ HL420_0.out hb
                      replace HL420_1 := mbR_ HL420_1.out hb
                      replace HL422_0 := mbR_ HL422_0.out hb
                      replace HL422_1 := mbR_ HL422_1.out hb
                      replace BK385 := mvB_ BK385.out hb
                      replace BK398 := mvB_ BK398.out hb
                      replace BK408 := mvB_ BK408.out hb
                      replace BK416 := mvB_ BK416.out hb
                      replace HR420_0 := Aside0.mk (Kd.C_below (mvC_ HR420_0.out) hb)
                      replace HR420_1 := Aside0.mk (Kd.C_below (mvC_ HR420_1.out) hb)
                      replace HR422_0 := Aside0.mk (Kd.C_below (mvC_ HR422_0.out) hb)
                      replace HR422_1 := Aside0.mk (Kd.C_below (mvC_ HR422_1.out) hb)
                      replace HB := Aside0.mk (below_step (bq4_ HB.out GE385.out GE398.out GE408.out GE416.out) hb)
                      (try clear hb)
                      (try clear hb2)
                      (try clear hk)
                      (try clear hi)
                      refine hK.out _ _ ⟨(blk_cell BK408.out 0).trans rfl, (blk_cell BK408.out 1).trans rfl, (blk_cell BK416.out 0).trans rfl, (blk_cell BK416.out 1).trans rfl, HS4_, HS5_, HS6_, HS7_⟩ (fun hHeld => ?_)
                      clear hK K
                      refine norm_ (a' := ?_) ?_ ?_
                      rotate_left
                      ·show Act.put _ (some 131) _ = _
                       simp only [Act.put, sA_, sB_, sC_, i64_w, i32_w]
                       rfl
                      refine pu_ 16 (some 132) L3_17 HT_ ?_
                      refine pu_ 17 (some 133) L3_18 HT_ ?_
                      refine pu_ 18 (some 134) L3_19 HT_ ?_
                      refine done_ (done_of HT_.out (by kernel_rfl)) ?_
                      try go_wp2
                      go_meet
                      case rel => exact ⟨_, (!t423), (by first | rfl | (simp; done) | (simp [*]; done)), H', ⟨by have := HJ5.out; have := HJ31.out; have := HK3.out; have := HK4.out; first | omega | exact Nat.le_refl _⟩, ⟨mvV_ HO_3.out⟩, ⟨mvR_ HO_12.out⟩, ⟨mvR_ HO_13.out⟩, ⟨mvV_ HO_386000.out⟩, ⟨mvV_ HO_386002.out⟩, ⟨mvV_ HO_399000.out⟩, ⟨mvV_ HO_399002.out⟩, ⟨mvV_ HO_409000.out⟩, ⟨mvV_ HO_409001.out⟩, ⟨mvR_ HO_417000.out⟩, ⟨mvR_ HO_417001.out⟩, ⟨by (with_reducible repeat (first | refine blk_drewN ?_ _ | refine blk_drew ?_ | refine blk_alloc ?_ _)); exact BK385.out⟩, ⟨by (with_reducible repeat (first | refine blk_drewN ?_ _ | refine blk_drew ?_ | refine blk_alloc ?_ _)); exact BK398.out⟩, ⟨by (with_reducible repeat (first | refine blk_drewN ?_ _ | refine blk_drew ?_ | refine blk_alloc ?_ _)); exact BK408.out⟩, ⟨by (with_reducible repeat (first | refine blk_drewN ?_ _ | refine blk_drew ?_ | refine blk_alloc ?_ _)); exact BK416.out⟩, ⟨bq4_ HB.out GE385.out GE398.out GE408.out GE416.out⟩⟩
                     ·rw [if_neg c88] at H
                      exact absurd H (by simp)
                    ·replace c87 := Bool.eq_false_iff.mpr c87
                     subst c87
                     have H1 : (fullerlaw18_StoreCommits.j4 k4 a1 l2 l3 t386 t399 t403 x14_3 false l0_0 a0_1 l0_2) = some r := by rw [if_neg (show ¬ (false = true) by decide)] at H; exact H
                     clear H
                     have H := H1
                     clear H1
                     have H' := Aside0.mk H
                     clear H
                     try go_wp2
                     replace HO_3 := Aside0.mk (Kd.V_drew HO_3.out)
                     replace HO_12 := Aside0.mk (Kd.R_drew HO_12.out)
                     replace HO_13 := Aside0.mk (Kd.R_drew HO_13.out)
                     replace HO_386000 := Aside0.mk (Kd.V_drew HO_386000.out)
                     replace HO_386002 := Aside0.mk (Kd.V_drew HO_386002.out)
                     replace HO_399000 := Aside0.mk (Kd.V_drew HO_399000.out)
                     replace HO_399002 := Aside0.mk (Kd.V_drew HO_399002.out)
                     replace HO_409000 := Aside0.mk (Kd.V_drew HO_409000.out)
                     replace HO_409001 := Aside0.mk (Kd.V_drew HO_409001.out)
                     replace HO_417000 := Aside0.mk (Kd.R_drew HO_417000.out)
                     replace HO_417001 := Aside0.mk (Kd.R_drew HO_417001.out)
                     replace BK385 := Aside0.mk (blk_drew BK385.out)
                     replace BK398 := Aside0.mk (blk_drew BK398.out)
                     replace BK408 := Aside0.mk (blk_drew BK408.out)
                     replace BK416 := Aside0.mk (blk_drew BK416.out)
                     replace HB := Aside0.mk (below_drew1 HB.out)
                     obtain ⟨Ao97, co97, eo97⟩ := Kd.R_slice HO_13.out
                     (first | subst eo97 | (injection eo97 with f1_ f2_ f3_; have f4_ := f1_.symm; have f5_ := f3_.symm; clear f1_ f2_ f3_; subst f4_; subst f5_))
                     have p420 : 0 ≤ (x14_3 : Int) := od_
                     have q420 : x14_3 < (t403.length : Int) := od_
                     obtain ⟨ad420, A420_0, c420_0, A420_1, c420_1, e420, hx420_0, hx420_1, hl420_0, hi420_0, hl420_1, hi420_1⟩ := at_T37 (Kd.R_reads' HO_13.out).2.2 x14_3 p420 q420
                     cases e420
                     obtain ⟨ce420, hce420, hMe420, hcc420⟩ := Kd.R_get HO_13.out z37 x14_3 p420 (by first | exact q420 | exact od_ | (have e_ := (Kd.R_reads' HO_13.out).1; omega))
                     obtain ⟨ve420_0, ve420_1, rfl, ge420_0, ge420_1⟩ := k37_openM hMe420
                     have hv420_0 := hcc420 0 _ rfl
                     rw [Nat.add_zero] at hv420_0
                     replace hv420_0 := Option.some.inj (hv420_0.symm.trans hx420_0)
                     rw [hv420_0] at ge420_0
                     have HL420_0 := Aside0.mk (show Kd.R (Kd.int .i64) 3 _ _ _ _ ((rd_T37 t403 x14_3).f0) from ge420_0)
                     clear hv420_0 ge420_0
                     have hv420_1 := hcc420 1 _ rfl
                     rw [add_field _ _ 1 (by omega)] at hv420_1
                     replace hv420_1 := Option.some.inj (hv420_1.symm.trans hx420_1)
                     rw [hv420_1] at ge420_1
                     have HL420_1 := Aside0.mk (show Kd.R (Kd.int .i64) 3 _ _ _ _ ((rd_T37 t403 x14_3).f1) from ge420_1)
                     clear hv420_1 ge420_1 hcc420 hce420
                     have HR420_0 := Aside0.mk hi420_0
                     have HC420_0 := Aside0.mk hl420_0
                     clear hi420_0 hl420_0
                     have HR420_1 := Aside0.mk hi420_1
                     have HC420_1 := Aside0.mk hl420_1
                     clear hi420_1 hl420_1
                     replace p420 := eq_true p420
                     replace q420 := eq_true q420
                     obtain ⟨Ao98, co98, eo98⟩ := Kd.V_slice HO_409000.out
                     (first | subst eo98 | (injection eo98 with f1_ f2_ f3_; have f4_ := f1_.symm; have f5_ := f3_.symm; clear f1_ f2_ f3_; subst f4_; subst f5_))
                     obtain ⟨Ao99, co99, eo99⟩ := Kd.V_slice HO_409001.out
                     (first | subst eo99 | (injection eo99 with f1_ f2_ f3_; have f4_ := f1_.symm; have f5_ := f3_.symm; clear f1_ f2_ f3_; subst f4_; subst f5_))
                     refine start_ (n := 19) (S := fun w' => w'.cell? ⟨gb408, 0, none⟩ = some (.slice Ao98 x409000_4.length co98) ∧ w'.cell? ⟨gb408, 1, none⟩ = some (.slice Ao99 x409001_4.length co99) ∧ w'.cell? (ad420.add ((x14_3).toNat * 2)) = some (.slice A420_0 ((rd_T37 t403 x14_3).f0).length c420_0) ∧ w'.cell? ⟨(ad420.add ((x14_3).toNat * 2)).block, (ad420.add ((x14_3).toNat * 2)).off + 1, none⟩ = some (.slice A420_1 ((rd_T37 t403 x14_3).f1).length c420_1)) (ds := []) L3_0 (by kernel_rfl) rfl rfl ⟨(blk_cell BK408.out 0).trans rfl, (blk_cell BK408.out 1).trans rfl, hx420_0, hx420_1⟩ (fun hHeld => ?_); refine with_tabW fullerlaw18_StoreCommits.tab23 fullerlaw18_StoreCommits.bits23 (fun HT_ HW_ => ?_)
                     generalize wr.drew = w96 at HO_3 HO_12 HO_13 HO_386000 HO_386002 HO_399000 HO_399002 HO_409000 HO_409001 HO_417000 HO_417001 BK385 BK398 BK408 BK416 HB HL420_0 HL420_1 HR420_0 HR420_1 hx420_0 hx420_1 hHeld ⊢
                     refine pu_ 0 (some 116) L3_1 HT_ ?_
                     refine pu_ 1 (some 117) L3_2 HT_ ?_
                     refine pu_ 2 (some 118) L3_3 HT_ ?_
                     refine ta_ 3 (some 119) L3_4 HT_ HW_ hHeld ?_ (hy := by rintro w' ⟨s0, s1, s2, s3⟩; go_simp; with_reducible rfl)
                     refine ta_ 4 (some 120) L3_5 HT_ HW_ hHeld ?_ (hy := by rintro w' ⟨s0, s1, s2, s3⟩; go_simp; with_reducible rfl)
                     refine one_ (i := 5) (N := some 121) L3_6 rfl rfl (one_of HT_.out (by kernel_rfl)) (by decide) (fun K hK => ?_)
                     refine goes_ Try.func15 (by kernel_rfl) rfl #[.agg #[.slice A420_0 ((rd_T37 t403 x14_3).f0).length c420_0, .slice A420_1 ((rd_T37 t403 x14_3).f1).length c420_1], .agg #[.slice Ao98 x409000_4.length co98, .slice Ao99 x409001_4.length co99]] (by rfl) rfl rfl (by (try simp only [List.map_toArray, List.map_cons, List.map_nil]); first | done | rfl | (simp only [List.length_drop, List.length_take]; rfl)) ?_
                     with_reducible refine (fullerref03_Same.calls k4 _ _ ((rd_T37 t403 x14_3).f0) _ _ ((rd_T37 t403 x14_3).f1) _ _ x409000_4 _ _ x409001_4 true _ ?side1 ?side2 ?side3 ?side4 ?side5 ?side6 ?side7 ?side8 A85.out).mono ?_
                     (case side1 => repeat (first | exact (by repeat (first | (with_reducible exact HR420_0.out) | (with_reducible refine Kd.C_alloc ?_ _) | (with_reducible refine Kd.C_drewN ?_ _) | (with_reducible refine Kd.C_drew ?_) | exact HR420_0.out)) | (with_reducible refine Kd.C_alloc ?_ _) | (with_reducible refine Kd.C_drewN ?_ _) | (with_reducible refine Kd.C_drew ?_)))
                     (case side2 => exact HC420_0.out)
                     (case side3 => repeat (first | exact (by repeat (first | (with_reducible exact HR420_1.out) | (with_reducible refine Kd.C_alloc ?_ _) | (with_reducible refine Kd.C_drewN ?_ _) | (with_reducible refine Kd.C_drew ?_) | exact HR420_1.out)) | (with_reducible refine Kd.C_alloc ?_ _) | (with_reducible refine Kd.C_drewN ?_ _) | (with_reducible refine Kd.C_drew ?_)))
                     (case side4 => exact HC420_1.out)
                     (case side5 => exact mvC_ ((Kd.V_reads' HO_409000.out).2.2))
                     (case side6 => exact (Kd.V_reads' HO_409000.out).2.1)
                     (case side7 => exact mvC_ ((Kd.V_reads' HO_409001.out).2.2))
                     (case side8 => exact (Kd.V_reads' HO_409001.out).2.1)
                     rintro e w100 ⟨rfl, hb⟩
                     have HS2_ := (hb.cell (World.block_lt_of_cell? _ _ (hHeld.2.2.1))).trans (hHeld.2.2.1)
                     have HS3_ := (hb.cell (World.block_lt_of_cell? _ _ (hHeld.2.2.2))).trans (hHeld.2.2.2)
                     refine ⟨_, rfl, ?_⟩
                     replace HO_3 := mbV_ HO_3.out hb
                     replace HO_12 := mbR_ HO_12.out hb
                     replace HO_13 := mbR_ HO_13.out hb
                     replace HO_386000 := mbV_ HO_386000.out hb
                     replace HO_386002 := mbV_ HO_386002.out hb
                     replace HO_399000 := mbV_ HO_399000.out hb
                     replace HO_399002 := mbV_ HO_399002.out hb
                     replace HO_409000 := mbV_ HO_409000.out hb
                     replace HO_409001 := mbV_ HO_409001.out hb
                     replace HO_417000 := mbR_ HO_417000.out hb
                     replace HO_417001 := mbR_ HO_417001.out hb
                     replace HL420_0 := mbR_ HL420_0.out hb
                     replace HL420_1 := mbR_ HL420_1.out hb
                     replace BK385 := mvB_ BK385.out hb
                     replace BK398 := mvB_ BK398.out hb
                     replace BK408 := mvB_ BK408.out hb
                     replace BK416 := mvB_ BK416.out hb
                     replace HR420_0 := Aside0.mk (Kd.C_below (mvC_ HR420_0.out) hb)
                     replace HR420_1 := Aside0.mk (Kd.C_below (mvC_ HR420_1.out) hb)
                     replace HB := Aside0.mk (below_step (bq4_ HB.out GE385.out GE398.out GE408.out GE416.out) hb)
                     (try clear hb)
                     (try clear hb2)
                     (try clear hk)
                     (try clear hi)
                     refine hK.out _ _ ⟨(blk_cell BK408.out 0).trans rfl, (blk_cell BK408.out 1).trans rfl, HS2_, HS3_⟩ (fun hHeld => ?_)
                     clear hK K
                     refine norm_ (a' := ?_) ?_ ?_
                     rotate_left
                     ·show Act.put _ (some 121) _ = _
                      simp only [Act.put, sA_, sB_, sC_, i64_w, i32_w]
                      rfl
                     refine pu_ 6 (some 122) L3_7 HT_ ?_
                     refine pu_ 7 (some 123) L3_8 HT_ ?_
                     refine pu_ 8 (some 124) L3_9 HT_ ?_
                     refine pu_ 9 (some 125) L3_10 HT_ ?_
                     refine skips_ (fuel := 2) (m := 9) HT_.out (fun _ _ _ _ _ h => h) [(10, 126), (11, 127), (12, 128), (13, 129), (14, 130), (15, 131), (16, 132)] L3_17 rfl (by kernel_rfl) (by kernel_rfl) (a' := ?_) ?_ ?_
                     rotate_left
                     ·simp only [putU, Act.put, sA_, sB_, sC_]
                      rfl
                     refine pu_ 17 (some 133) L3_18 HT_ ?_
                     refine pu_ 18 (some 134) L3_19 HT_ ?_
                     refine done_ (done_of HT_.out (by kernel_rfl)) ?_
                     try go_wp2
                     go_meet
                     case rel => exact ⟨_, (false), (by first | rfl | (simp; done) | (simp [*]; done)), H', ⟨by have := HJ5.out; have := HJ31.out; have := HK3.out; have := HK4.out; first | omega | exact Nat.le_refl _⟩, ⟨mvV_ HO_3.out⟩, ⟨mvR_ HO_12.out⟩, ⟨mvR_ HO_13.out⟩, ⟨mvV_ HO_386000.out⟩, ⟨mvV_ HO_386002.out⟩, ⟨mvV_ HO_399000.out⟩, ⟨mvV_ HO_399002.out⟩, ⟨mvV_ HO_409000.out⟩, ⟨mvV_ HO_409001.out⟩, ⟨mvR_ HO_417000.out⟩, ⟨mvR_ HO_417001.out⟩, ⟨by (with_reducible repeat (first | refine blk_drewN ?_ _ | refine blk_drew ?_ | refine blk_alloc ?_ _)); exact BK385.out⟩, ⟨by (with_reducible repeat (first | refine blk_drewN ?_ _ | refine blk_drew ?_ | refine blk_alloc ?_ _)); exact BK398.out⟩, ⟨by (with_reducible repeat (first | refine blk_drewN ?_ _ | refine blk_drew ?_ | refine blk_alloc ?_ _)); exact BK408.out⟩, ⟨by (with_reducible repeat (first | refine blk_drewN ?_ _ | refine blk_drew ?_ | refine blk_alloc ?_ _)); exact BK416.out⟩, ⟨bq4_ HB.out GE385.out GE398.out GE408.out GE416.out⟩⟩
                   ·replace c86 := Bool.eq_false_iff.mpr c86
                    subst c86
                    have H1 : (fullerlaw18_StoreCommits.j4 k4 a1 l2 l3 t386 t399 t403 x14_3 true l0_0 a0_1 l0_2) = some r := by rw [if_neg (show ¬ (false = true) by decide)] at H; exact H
                    clear H
                    have H := H1
                    clear H1
                    have H' := Aside0.mk H
                    clear H
                    try go_wp2
                    replace HO_3 := Aside0.mk (Kd.V_drew HO_3.out)
                    replace HO_12 := Aside0.mk (Kd.R_drew HO_12.out)
                    replace HO_13 := Aside0.mk (Kd.R_drew HO_13.out)
                    replace HO_386000 := Aside0.mk (Kd.V_drew HO_386000.out)
                    replace HO_386002 := Aside0.mk (Kd.V_drew HO_386002.out)
                    replace HO_399000 := Aside0.mk (Kd.V_drew HO_399000.out)
                    replace HO_399002 := Aside0.mk (Kd.V_drew HO_399002.out)
                    replace HO_409000 := Aside0.mk (Kd.V_drew HO_409000.out)
                    replace HO_409001 := Aside0.mk (Kd.V_drew HO_409001.out)
                    replace HO_417000 := Aside0.mk (Kd.R_drew HO_417000.out)
                    replace HO_417001 := Aside0.mk (Kd.R_drew HO_417001.out)
                    replace BK385 := Aside0.mk (blk_drew BK385.out)
                    replace BK398 := Aside0.mk (blk_drew BK398.out)
                    replace BK408 := Aside0.mk (blk_drew BK408.out)
                    replace BK416 := Aside0.mk (blk_drew BK416.out)
                    replace HB := Aside0.mk (below_drew1 HB.out)
                    obtain ⟨Ao102, co102, eo102⟩ := Kd.R_slice HO_13.out
                    (first | subst eo102 | (injection eo102 with f1_ f2_ f3_; have f4_ := f1_.symm; have f5_ := f3_.symm; clear f1_ f2_ f3_; subst f4_; subst f5_))
                    have p420 : 0 ≤ (x14_3 : Int) := od_
                    have q420 : x14_3 < (t403.length : Int) := od_
                    obtain ⟨ad420, A420_0, c420_0, A420_1, c420_1, e420, hx420_0, hx420_1, hl420_0, hi420_0, hl420_1, hi420_1⟩ := at_T37 (Kd.R_reads' HO_13.out).2.2 x14_3 p420 q420
                    cases e420
                    obtain ⟨ce420, hce420, hMe420, hcc420⟩ := Kd.R_get HO_13.out z37 x14_3 p420 (by first | exact q420 | exact od_ | (have e_ := (Kd.R_reads' HO_13.out).1; omega))
                    obtain ⟨ve420_0, ve420_1, rfl, ge420_0, ge420_1⟩ := k37_openM hMe420
                    have hv420_0 := hcc420 0 _ rfl
                    rw [Nat.add_zero] at hv420_0
                    replace hv420_0 := Option.some.inj (hv420_0.symm.trans hx420_0)
                    rw [hv420_0] at ge420_0
                    have HL420_0 := Aside0.mk (show Kd.R (Kd.int .i64) 3 _ _ _ _ ((rd_T37 t403 x14_3).f0) from ge420_0)
                    clear hv420_0 ge420_0
                    have hv420_1 := hcc420 1 _ rfl
                    rw [add_field _ _ 1 (by omega)] at hv420_1
                    replace hv420_1 := Option.some.inj (hv420_1.symm.trans hx420_1)
                    rw [hv420_1] at ge420_1
                    have HL420_1 := Aside0.mk (show Kd.R (Kd.int .i64) 3 _ _ _ _ ((rd_T37 t403 x14_3).f1) from ge420_1)
                    clear hv420_1 ge420_1 hcc420 hce420
                    have HR420_0 := Aside0.mk hi420_0
                    have HC420_0 := Aside0.mk hl420_0
                    clear hi420_0 hl420_0
                    have HR420_1 := Aside0.mk hi420_1
                    have HC420_1 := Aside0.mk hl420_1
                    clear hi420_1 hl420_1
                    replace p420 := eq_true p420
                    replace q420 := eq_true q420
                    obtain ⟨Ao103, co103, eo103⟩ := Kd.V_slice HO_409000.out
                    (first | subst eo103 | (injection eo103 with f1_ f2_ f3_; have f4_ := f1_.symm; have f5_ := f3_.symm; clear f1_ f2_ f3_; subst f4_; subst f5_))
                    obtain ⟨Ao104, co104, eo104⟩ := Kd.V_slice HO_409001.out
                    (first | subst eo104 | (injection eo104 with f1_ f2_ f3_; have f4_ := f1_.symm; have f5_ := f3_.symm; clear f1_ f2_ f3_; subst f4_; subst f5_))
                    refine start_ (n := 19) (S := fun w' => w'.cell? ⟨gb408, 0, none⟩ = some (.slice Ao103 x409000_4.length co103) ∧ w'.cell? ⟨gb408, 1, none⟩ = some (.slice Ao104 x409001_4.length co104) ∧ w'.cell? (ad420.add ((x14_3).toNat * 2)) = some (.slice A420_0 ((rd_T37 t403 x14_3).f0).length c420_0) ∧ w'.cell? ⟨(ad420.add ((x14_3).toNat * 2)).block, (ad420.add ((x14_3).toNat * 2)).off + 1, none⟩ = some (.slice A420_1 ((rd_T37 t403 x14_3).f1).length c420_1)) (ds := []) L3_0 (by kernel_rfl) rfl rfl ⟨(blk_cell BK408.out 0).trans rfl, (blk_cell BK408.out 1).trans rfl, hx420_0, hx420_1⟩ (fun hHeld => ?_); refine with_tabW fullerlaw18_StoreCommits.tab23 fullerlaw18_StoreCommits.bits23 (fun HT_ HW_ => ?_)
                    generalize wr.drew = w101 at HO_3 HO_12 HO_13 HO_386000 HO_386002 HO_399000 HO_399002 HO_409000 HO_409001 HO_417000 HO_417001 BK385 BK398 BK408 BK416 HB HL420_0 HL420_1 HR420_0 HR420_1 hx420_0 hx420_1 hHeld ⊢
                    refine pu_ 0 (some 116) L3_1 HT_ ?_
                    refine pu_ 1 (some 117) L3_2 HT_ ?_
                    refine pu_ 2 (some 118) L3_3 HT_ ?_
                    refine ta_ 3 (some 119) L3_4 HT_ HW_ hHeld ?_ (hy := by rintro w' ⟨s0, s1, s2, s3⟩; go_simp; with_reducible rfl)
                    refine ta_ 4 (some 120) L3_5 HT_ HW_ hHeld ?_ (hy := by rintro w' ⟨s0, s1, s2, s3⟩; go_simp; with_reducible rfl)
                    refine one_ (i := 5) (N := some 121) L3_6 rfl rfl (one_of HT_.out (by kernel_rfl)) (by decide) (fun K hK => ?_)
                    refine goes_ Try.func15 (by kernel_rfl) rfl #[.agg #[.slice A420_0 ((rd_T37 t403 x14_3).f0).length c420_0, .slice A420_1 ((rd_T37 t403 x14_3).f1).length c420_1], .agg #[.slice Ao103 x409000_4.length co103, .slice Ao104 x409001_4.length co104]] (by rfl) rfl rfl (by (try simp only [List.map_toArray, List.map_cons, List.map_nil]); first | done | rfl | (simp only [List.length_drop, List.length_take]; rfl)) ?_
                    with_reducible refine (fullerref03_Same.calls k4 _ _ ((rd_T37 t403 x14_3).f0) _ _ ((rd_T37 t403 x14_3).f1) _ _ x409000_4 _ _ x409001_4 false _ ?side1 ?side2 ?side3 ?side4 ?side5 ?side6 ?side7 ?side8 A85.out).mono ?_
                    (case side1 => repeat (first | exact (by repeat (first | (with_reducible exact HR420_0.out) | (with_reducible refine Kd.C_alloc ?_ _) | (with_reducible refine Kd.C_drewN ?_ _) | (with_reducible refine Kd.C_drew ?_) | exact HR420_0.out)) | (with_reducible refine Kd.C_alloc ?_ _) | (with_reducible refine Kd.C_drewN ?_ _) | (with_reducible refine Kd.C_drew ?_)))
                    (case side2 => exact HC420_0.out)
                    (case side3 => repeat (first | exact (by repeat (first | (with_reducible exact HR420_1.out) | (with_reducible refine Kd.C_alloc ?_ _) | (with_reducible refine Kd.C_drewN ?_ _) | (with_reducible refine Kd.C_drew ?_) | exact HR420_1.out)) | (with_reducible refine Kd.C_alloc ?_ _) | (with_reducible refine Kd.C_drewN ?_ _) | (with_reducible refine Kd.C_drew ?_)))
                    (case side4 => exact HC420_1.out)
                    (case side5 => exact mvC_ ((Kd.V_reads' HO_409000.out).2.2))
                    (case side6 => exact (Kd.V_reads' HO_409000.out).2.1)
                    (case side7 => exact mvC_ ((Kd.V_reads' HO_409001.out).2.2))
                    (case side8 => exact (Kd.V_reads' HO_409001.out).2.1)
                    rintro e w105 ⟨rfl, hb⟩
                    have HS2_ := (hb.cell (World.block_lt_of_cell? _ _ (hHeld.2.2.1))).trans (hHeld.2.2.1)
                    have HS3_ := (hb.cell (World.block_lt_of_cell? _ _ (hHeld.2.2.2))).trans (hHeld.2.2.2)
                    refine ⟨_, rfl, ?_⟩
                    replace HO_3 := mbV_ HO_3.out hb
                    replace HO_12 := mbR_ HO_12.out hb
                    replace HO_13 := mbR_ HO_13.out hb
                    replace HO_386000 := mbV_ HO_386000.out hb
                    replace HO_386002 := mbV_ HO_386002.out hb
                    replace HO_399000 := mbV_ HO_399000.out hb
                    replace HO_399002 := mbV_ HO_399002.out hb
                    replace HO_409000 := mbV_ HO_409000.out hb
                    replace HO_409001 := mbV_ HO_409001.out hb
                    replace HO_417000 := mbR_ HO_417000.out hb
                    replace HO_417001 := mbR_ HO_417001.out hb
                    replace HL420_0 := mbR_ HL420_0.out hb
                    replace HL420_1 := mbR_ HL420_1.out hb
                    replace BK385 := mvB_ BK385.out hb
                    replace BK398 := mvB_ BK398.out hb
                    replace BK408 := mvB_ BK408.out hb
                    replace BK416 := mvB_ BK416.out hb
                    replace HR420_0 := Aside0.mk (Kd.C_below (mvC_ HR420_0.out) hb)
                    replace HR420_1 := Aside0.mk (Kd.C_below (mvC_ HR420_1.out) hb)
                    replace HB := Aside0.mk (below_step (bq4_ HB.out GE385.out GE398.out GE408.out GE416.out) hb)
                    (try clear hb)
                    (try clear hb2)
                    (try clear hk)
                    (try clear hi)
                    refine hK.out _ _ ⟨(blk_cell BK408.out 0).trans rfl, (blk_cell BK408.out 1).trans rfl, HS2_, HS3_⟩ (fun hHeld => ?_)
                    clear hK K
                    refine norm_ (a' := ?_) ?_ ?_
                    rotate_left
                    ·show Act.put _ (some 121) _ = _
                     simp only [Act.put, sA_, sB_, sC_, i64_w, i32_w]
                     rfl
                    refine pu_ 6 (some 122) L3_7 HT_ ?_
                    refine pu_ 7 (some 123) L3_8 HT_ ?_
                    refine skips_ (fuel := 1) (m := 11) HT_.out (fun _ _ _ _ _ h => h) [(8, 124), (9, 125), (10, 126), (11, 127), (12, 128), (13, 129), (14, 130), (15, 131), (16, 132), (17, 133)] L3_18 rfl (by kernel_rfl) (by kernel_rfl) (a' := ?_) ?_ ?_
                    rotate_left
                    ·simp only [putU, Act.put, sA_, sB_, sC_]
                     rfl
                    refine pu_ 18 (some 134) L3_19 HT_ ?_
                    refine done_ (done_of HT_.out (by kernel_rfl)) ?_
                    try go_wp2
                    go_meet
                    case rel => exact ⟨_, (true), (by first | rfl | (simp; done) | (simp [*]; done)), H', ⟨by have := HJ5.out; have := HJ31.out; have := HK3.out; have := HK4.out; first | omega | exact Nat.le_refl _⟩, ⟨mvV_ HO_3.out⟩, ⟨mvR_ HO_12.out⟩, ⟨mvR_ HO_13.out⟩, ⟨mvV_ HO_386000.out⟩, ⟨mvV_ HO_386002.out⟩, ⟨mvV_ HO_399000.out⟩, ⟨mvV_ HO_399002.out⟩, ⟨mvV_ HO_409000.out⟩, ⟨mvV_ HO_409001.out⟩, ⟨mvR_ HO_417000.out⟩, ⟨mvR_ HO_417001.out⟩, ⟨by (with_reducible repeat (first | refine blk_drewN ?_ _ | refine blk_drew ?_ | refine blk_alloc ?_ _)); exact BK385.out⟩, ⟨by (with_reducible repeat (first | refine blk_drewN ?_ _ | refine blk_drew ?_ | refine blk_alloc ?_ _)); exact BK398.out⟩, ⟨by (with_reducible repeat (first | refine blk_drewN ?_ _ | refine blk_drew ?_ | refine blk_alloc ?_ _)); exact BK408.out⟩, ⟨by (with_reducible repeat (first | refine blk_drewN ?_ _ | refine blk_drew ?_ | refine blk_alloc ?_ _)); exact BK416.out⟩, ⟨bq4_ HB.out GE385.out GE398.out GE408.out GE416.out⟩⟩
                  ·rw [if_neg c84] at H
                   exact absurd H (by simp)
                 ·rw [if_neg c83] at H
                  exact absurd H (by simp)
                case rest =>
                 clear HC82
                 try clear c1
                 try clear p2
                 try clear c4
                 try clear p4
                 try clear q4
                 try clear hx4
                 try clear c8
                 try clear c15
                 try clear c42
                 try clear p42
                 try clear q42
                 try clear hx42
                 try clear c83
                 try clear c84
                 try clear c86
                 try clear c87
                 try clear c88
                 try clear hx420_0
                 try clear hx420_1
                 try clear p420
                 try clear q420
                 obtain ⟨kq, x134_81, rfl, HA, HJ81, HO_3, HO_12, HO_13, HO_386000, HO_386002, HO_399000, HO_399002, HO_409000, HO_409001, HO_417000, HO_417001, BK385, BK398, BK408, BK416, HB⟩ := hcut
                 cases kq with
                 | zero => exact absurd HA.out (by simp [fullerlaw18_StoreCommits.j4])
                 | succ kj81 =>
                  have H := HA.out
                  clear HA
                  simp only [fullerlaw18_StoreCommits.j4] at H
                  by_cases c106 : x134_81 = true
                  ·subst c106
                   have H1 : (some false) = some r := by rw [if_pos rfl] at H; exact H
                   clear H
                   have H := H1
                   clear H1
                   obtain rfl := Option.some.inj H
                   go_wp2
                   go_ret
                   exact ⟨by first | rfl | (simp <;> rfl) | (simp [*] <;> rfl), bq4_ HB.out GE385.out GE398.out GE408.out GE416.out⟩
                  ·replace c106 := Bool.eq_false_iff.mpr c106
                   subst c106
                   have H1 : (fullerlaw18_StoreCommits.l0 kj81 a1 l2 l3 t386 t399 t403 (wrap64 (x14_3 + 1)) l0_0 a0_1 l0_2) = some r := by rw [if_neg (show ¬ (false = true) by decide)] at H; exact H
                   clear H
                   have H := H1
                   clear H1
                   have H' := Aside0.mk H
                   clear H
                   go_wp2
                   go_roundg kj81
                   case measure => have := HJ5.out; have := HJ31.out; have := HK3.out; have := HK4.out; have := HJ81.out; omega
                   case rel => exact ⟨(wrap64 (x14_3 + 1)), (by first | rfl | (simp; done) | (simp [*]; done)), H', ⟨by have := HJ5.out; have := HJ31.out; have := HK3.out; have := HK4.out; have := HJ81.out; omega⟩, ⟨by (with_reducible repeat (first | apply Kd.V_alloc | apply Kd.V_drewN | apply Kd.V_drew)); exact Kd.V_mono HO_3.out (fun _ hk => ⟨hk.1, ⟨hk.2.1, hk.2.2.1⟩⟩)⟩, ⟨by (with_reducible repeat (first | apply Kd.R_alloc | apply Kd.R_drewN | apply Kd.R_drew)); exact Kd.R_mono HO_12.out (fun _ hk => hk.1)⟩, ⟨by (with_reducible repeat (first | apply Kd.R_alloc | apply Kd.R_drewN | apply Kd.R_drew)); exact Kd.R_mono HO_13.out (fun _ hk => hk.1)⟩, ⟨by (with_reducible repeat (first | apply Kd.V_alloc | apply Kd.V_drewN | apply Kd.V_drew)); exact Kd.V_mono HO_386000.out (fun _ hk => ⟨hk.1, ⟨hk.2.1, hk.2.2.1⟩⟩)⟩, ⟨by (with_reducible repeat (first | apply Kd.V_alloc | apply Kd.V_drewN | apply Kd.V_drew)); exact Kd.V_mono HO_386002.out (fun _ hk => ⟨hk.1, ⟨hk.2.1, hk.2.2.1⟩⟩)⟩, ⟨by (with_reducible repeat (first | apply Kd.V_alloc | apply Kd.V_drewN | apply Kd.V_drew)); exact Kd.V_mono HO_399000.out (fun _ hk => ⟨hk.1, ⟨hk.2.1, hk.2.2.1⟩⟩)⟩, ⟨by (with_reducible repeat (first | apply Kd.V_alloc | apply Kd.V_drewN | apply Kd.V_drew)); exact Kd.V_mono HO_399002.out (fun _ hk => ⟨hk.1, ⟨hk.2.1, hk.2.2.1⟩⟩)⟩, ⟨by (with_reducible repeat (first | refine blk_drewN ?_ _ | refine blk_drew ?_ | refine blk_alloc ?_ _)); exact BK385.out⟩, ⟨by (with_reducible repeat (first | refine blk_drewN ?_ _ | refine blk_drew ?_ | refine blk_alloc ?_ _)); exact BK398.out⟩, ⟨bq4_ HB.out GE385.out GE398.out GE408.out GE416.out⟩⟩
            ·rw [if_neg c57] at H
             exact absurd H (by simp)
           ·rw [if_neg c56] at H
            exact absurd H (by simp)
          ·rw [if_neg c55] at H
           have c55b0 : decide (x14_3 < 8) = false := decide_eq_false c55
           clear c55
           by_cases c107 : t386 = true
           ·subst c107
            have H1 : ((fullerref10_In.f k3 l0_2 a1).bind fun t406 => (some t406)) = some r := by rw [if_pos rfl] at H; exact H
            clear H
            have H := H1
            clear H1
            replace H := Option.bind_eq_some_iff.mp H
            obtain ⟨t406, A1080, H⟩ := H
            replace H : (some t406) = some r := H
            have A108 := Aside0.mk A1080
            clear A1080
            obtain rfl := Option.some.inj H
            have hnb109 := NB385_398.out
            have hnc109 := NB398_385.out
            have hcz110_0 := cz0_ BK385.out
            have hcz110_1 := cz1_ BK385.out
            have hcz110_2 := cz2_ BK385.out
            have hfz110_0 := blk_frozen BK385.out 0
            have hfz110_1 := blk_frozen BK385.out 1
            have hfz110_2 := blk_frozen BK385.out 2
            go_wp2_with (first | (go_at_call 14; (with_reducible refine (fullerref10_In.calls k3 _ _ l0_2 a1 t406 _ ?side1 ?side2 A108.out).mono ?_); (case side1 => exact mvC_ ((Kd.V_reads' HO_386002.out).2.2)); (case side2 => exact (Kd.V_reads' HO_386002.out).2.1); rintro e w' ⟨rfl, ⟨nd, rfl⟩⟩))
            go_ret
            exact ⟨by first | rfl | (simp <;> rfl) | (simp [*] <;> rfl), bq2_ HB.out GE385.out GE398.out⟩
           ·replace c107 := Bool.eq_false_iff.mpr c107
            subst c107
            have H1 : (some false) = some r := by rw [if_neg (show ¬ (false = true) by decide)] at H; exact H
            clear H
            have H := H1
            clear H1
            obtain rfl := Option.some.inj H
            go_wp2
            go_ret
            exact ⟨by first | rfl | (simp <;> rfl) | (simp [*] <;> rfl), bq2_ HB.out GE385.out GE398.out⟩
    ·rw [if_neg c30] at H
     have c30b0 : (t397 == 0) = false := beq_eq_false_iff_ne.mpr c30
     have c30b1 : (t397 != 0) = true := bne_iff_ne.mpr c30
     by_cases c111 : t386 = true
     ·subst c111
      have H1 : ((fullerref18_Same.f kj5 t390 t393 t394 l0_0 a0_1 l0_2).bind fun t402 => (some t402)) = some r := by rw [if_pos rfl] at H; exact H
      clear H
      have H := H1
      clear H1
      replace H := Option.bind_eq_some_iff.mp H
      obtain ⟨t402, A1120, H⟩ := H
      replace H : (some t402) = some r := H
      have A112 := Aside0.mk A1120
      clear A1120
      obtain rfl := Option.some.inj H
      have hcz113_0 := cz0_ BK385.out
      have hcz113_1 := cz1_ BK385.out
      have hcz113_2 := cz2_ BK385.out
      have hfz113_0 := blk_frozen BK385.out 0
      have hfz113_1 := blk_frozen BK385.out 1
      have hfz113_2 := blk_frozen BK385.out 2
      go_wp2_with (first | ((with_reducible refine gate_callee (f := 10) rfl ?_); refine gL_ (some 45) Try.func10 #[.agg #[.slice A0_0 l0_0.length c0_0, .int .i64 a0_1, .slice A0_2 l0_2.length c0_2], .int .i64 a1, .slice A2 l2.length c2, .slice A3 l3.length c3] ?_; (with_reducible refine (store_Commit.calls kj5 (fun k_ => (((P0_0_ k_ ∨ P0_2_ k_ ∨ P3_ k_) ∨ w.heap.size ≤ k_) ∧ k_ ≠ gb385)) _ _ l0_0 a0_1 (fun k_ => (((P0_0_ k_ ∨ P0_2_ k_ ∨ P3_ k_) ∨ w.heap.size ≤ k_) ∧ k_ ≠ gb385)) _ _ l0_2 a1 _ _ l2 _ _ l3 t390 t393 t394 t397 _ ?side1 ?side2 ?side3 ?side4 ?side5 ?side6 A28.out).mono ?_); (case side1 => (with_reducible repeat (first | apply Kd.V_alloc | apply Kd.V_drewN | apply Kd.V_drew)); first | with_reducible exact HO_386000.out | exact HO_386000.out | exact Kd.V_mono HO_386000.out (fun _ h_ => by simpa only [and_assoc, and_comm, and_left_comm] using h_)); (case side2 => (with_reducible repeat (first | apply Kd.V_alloc | apply Kd.V_drewN | apply Kd.V_drew)); first | with_reducible exact HO_386002.out | exact HO_386002.out | exact Kd.V_mono HO_386002.out (fun _ h_ => by simpa only [and_assoc, and_comm, and_left_comm] using h_)); (case side3 => exact mvC_ ((Kd.C_below HR2.out HB.out))); (case side4 => exact HC2.out); (case side5 => exact mvC_ ((Kd.V_reads' HO_3.out).2.2)); (case side6 => exact (Kd.V_reads' HO_3.out).2.1); rintro e w114 ⟨v391, v395, rfl, ho0, ho1, hb⟩; refine ⟨_, rfl, ?_⟩; have HO392 := Aside0.mk (Kd.V_lower (Kd.V_mono (ok' := fun k_ => ((P0_0_ k_ ∨ P0_2_ k_ ∨ P3_ k_) ∨ w.heap.size ≤ k_) ∧ k_ ≠ gb385) ho0 (fun k_ hk_ => ⟨Or.elim hk_ (fun hs_ => Or.elim hs_ (fun hs_ => hs_.1) (fun hs_ => hs_.1)) (fun hn_ => (.inr (Nat.le_trans (below_size (bq1_ HB.out GE385.out)) hn_))), Or.elim hk_ (fun hs_ => Or.elim hs_ (fun hs_ => hs_.2) (fun hs_ => hs_.2)) (fun hn_ => (mvF_ BK385.out hn_))⟩)) (below_size (bq1_ HB.out GE385.out))); have HO396 := Aside0.mk (Kd.V_lower (Kd.V_mono (ok' := fun k_ => ((P0_0_ k_ ∨ P0_2_ k_ ∨ P3_ k_) ∨ w.heap.size ≤ k_) ∧ k_ ≠ gb385) ho1 (fun k_ hk_ => ⟨Or.elim hk_ (fun hs_ => Or.elim hs_ (fun hs_ => hs_.1) (fun hs_ => hs_.1)) (fun hn_ => (.inr (Nat.le_trans (below_size (bq1_ HB.out GE385.out)) hn_))), Or.elim hk_ (fun hs_ => Or.elim hs_ (fun hs_ => hs_.2) (fun hs_ => hs_.2)) (fun hn_ => (mvF_ BK385.out hn_))⟩)) (below_size (bq1_ HB.out GE385.out))); replace HO_3 := mbV_ HO_3.out hb; replace HO_386000 := mbV_ HO_386000.out hb; replace HO_386002 := mbV_ HO_386002.out hb; replace BK385 := mvB_ BK385.out hb; replace HB := Aside0.mk (below_step (bq1_ HB.out GE385.out) hb); (try clear hb); (try clear ho0); (try clear ho1)) | ((with_reducible refine gate_dst (N := 10) rfl ?_); (try (refine gate_guard (by rfl) ?_; dsimp only)); refine box_event ?hg (N := 10) ?hd (cs := #[.slice none 0 0, .int .i64 0, .slice none 0 0]) (t := 25) ?hr ?_; (case hd => rfl); (case hg => rfl); (case hr => first | (go_simp; done) | (go_simp; rfl)); intro gb398 hg w115 hbox hb; have BK398 := Aside0.mk (hbox); have GW398 := Aside0.mk ((by rw [hg]; exact (below_size (bq1_ HB.out GE385.out)) : w.heap.size ≤ gb398)); have GE398 := Aside0.mk ((by rw [hg]; exact (below_size (bq1_ HB.out GE385.out)) : w.heap.size ≤ gb398)); have NB385_398 := Aside0.mk ((by rw [hg]; exact Nat.ne_of_lt (blk_lt (g := gb385) (o := .cells #[.slice A0_0 l0_0.length c0_0, .int .i64 a0_1, .slice A0_2 l0_2.length c0_2] 25 (0, 0)) (mvK_ BK385.out)) : gb385 ≠ gb398)); have NB398_385 := Aside0.mk ((by rw [hg]; exact Nat.ne_of_gt (blk_lt (g := gb385) (o := .cells #[.slice A0_0 l0_0.length c0_0, .int .i64 a0_1, .slice A0_2 l0_2.length c0_2] 25 (0, 0)) (mvK_ BK385.out)) : gb398 ≠ gb385)); replace HO_3 := Aside0.mk (Kd.V_below (Kd.V_elderB (mvV_ HO_3.out) gb398 (Nat.le_of_eq hg.symm)) hb); replace HO_386000 := Aside0.mk (Kd.V_below (Kd.V_elderB (mvV_ HO_386000.out) gb398 (Nat.le_of_eq hg.symm)) hb); replace HO_386002 := Aside0.mk (Kd.V_below (Kd.V_elderB (mvV_ HO_386002.out) gb398 (Nat.le_of_eq hg.symm)) hb); replace HO392 := Aside0.mk (Kd.V_below (Kd.V_elderB (mvV_ HO392.out) gb398 (Nat.le_of_eq hg.symm)) hb); replace HO396 := Aside0.mk (Kd.V_below (Kd.V_elderB (mvV_ HO396.out) gb398 (Nat.le_of_eq hg.symm)) hb); replace BK385 := mvB_ BK385.out hb; replace HB := Aside0.mk (below_step (bq1_ HB.out GE385.out) hb); clear hb hbox hg; obtain ⟨Ao116, co116, eo116⟩ := Kd.V_slice HO392.out; subst eo116; have hnb117 := NB398_385.out; have hnc117 := NB385_398.out; have hcz118_0 := cz0_ BK398.out; have hcz118_1 := cz1_ BK398.out; have hcz118_2 := cz2_ BK398.out; have hfz118_0 := blk_frozen BK398.out 0; have hfz118_1 := blk_frozen BK398.out 1; have hfz118_2 := blk_frozen BK398.out 2; obtain ⟨Ao119, co119, eo119⟩ := Kd.V_slice HO396.out; subst eo119; have hcz120_0 := cz0_ BK385.out; have hcz120_1 := cz1_ BK385.out; have hcz120_2 := cz2_ BK385.out; have hfz120_0 := blk_frozen BK385.out 0; have hfz120_1 := blk_frozen BK385.out 1; have hfz120_2 := blk_frozen BK385.out 2) | ((with_reducible refine gate_callee (f := 11) rfl ?_); refine gL_ (some 51) Try.func11 #[.agg #[.slice A0_0 l0_0.length c0_0, .int .i64 a0_1, .slice A0_2 l0_2.length c0_2], .int .i64 a0_1] ?_; (with_reducible refine (store_All.calls kj5 _ _ l0_0 a0_1 _ _ l0_2 a0_1 t399 _ ?side1 ?side2 ?side3 ?side4 A29.out).mono ?_); (case side1 => refine (Kd.V_reads' (e := 54) (base := w.heap.size) (ok := fun k_ => ((((P0_0_ k_ ∨ P0_2_ k_ ∨ P3_ k_) ∨ w.heap.size ≤ k_) ∧ k_ ≠ gb385) ∧ k_ ≠ gb398)) (n := l0_0.length) (c := c0_0) ?_).2.2; exact (by (with_reducible repeat (first | apply Kd.V_alloc | apply Kd.V_drewN | apply Kd.V_drew)); exact (Kd.V_mono (Kd.V_far (p := ⟨gb398, 2, none⟩) (Kd.V_far (p := ⟨gb398, 1, none⟩) (Kd.V_far (p := ⟨gb398, 0, none⟩) (Kd.V_mono HO_386000.out (fun k_ hk => (⟨hk, hk.2⟩ : _ ∧ k_ ≠ gb398))) (fun _ hk => hk.2) (.slice Ao116 t390.length co116)) (fun _ hk => hk.2) (.int .i64 t393)) (fun _ hk => hk.2) (.slice Ao119 t394.length co119)) (fun _ h_ => h_.1)))); (case side2 => exact (Kd.V_reads' HO_386000.out).2.1); (case side3 => refine (Kd.V_reads' (e := 3) (base := w.heap.size) (ok := fun k_ => ((((P0_0_ k_ ∨ P0_2_ k_ ∨ P3_ k_) ∨ w.heap.size ≤ k_) ∧ k_ ≠ gb385) ∧ k_ ≠ gb398)) (n := l0_2.length) (c := c0_2) ?_).2.2; exact (by (with_reducible repeat (first | apply Kd.V_alloc | apply Kd.V_drewN | apply Kd.V_drew)); exact (Kd.V_mono (Kd.V_far (p := ⟨gb398, 2, none⟩) (Kd.V_far (p := ⟨gb398, 1, none⟩) (Kd.V_far (p := ⟨gb398, 0, none⟩) (Kd.V_mono HO_386002.out (fun k_ hk => (⟨hk, hk.2⟩ : _ ∧ k_ ≠ gb398))) (fun _ hk => hk.2) (.slice Ao116 t390.length co116)) (fun _ hk => hk.2) (.int .i64 t393)) (fun _ hk => hk.2) (.slice Ao119 t394.length co119)) (fun _ h_ => h_.1)))); (case side4 => exact (Kd.V_reads' HO_386002.out).2.1); rintro e w121 ⟨v400, rfl, ho0, hb⟩; refine ⟨_, rfl, ?_⟩; have HO401 := Aside0.mk (Kd.R_lower (Kd.R_newM (M := fun k_ => (w.heap.size ≤ k_)) ho0 (below_size (bq2_ HB.out GE385.out GE398.out)) (fun k_ h_ => h_)) (below_size (bq2_ HB.out GE385.out GE398.out))); replace HO_3 := Aside0.mk (Kd.V_below (by (with_reducible repeat (first | apply Kd.V_alloc | apply Kd.V_drewN | apply Kd.V_drew)); exact (Kd.V_mono (Kd.V_far (p := ⟨gb398, 2, none⟩) (Kd.V_far (p := ⟨gb398, 1, none⟩) (Kd.V_far (p := ⟨gb398, 0, none⟩) (Kd.V_mono HO_3.out (fun k_ hk => (⟨hk, hk.2⟩ : _ ∧ k_ ≠ gb398))) (fun _ hk => hk.2) (.slice Ao116 t390.length co116)) (fun _ hk => hk.2) (.int .i64 t393)) (fun _ hk => hk.2) (.slice Ao119 t394.length co119)) (fun _ h_ => h_.1))) hb); replace HO_386000 := Aside0.mk (Kd.V_below (by (with_reducible repeat (first | apply Kd.V_alloc | apply Kd.V_drewN | apply Kd.V_drew)); exact (Kd.V_mono (Kd.V_far (p := ⟨gb398, 2, none⟩) (Kd.V_far (p := ⟨gb398, 1, none⟩) (Kd.V_far (p := ⟨gb398, 0, none⟩) (Kd.V_mono HO_386000.out (fun k_ hk => (⟨hk, hk.2⟩ : _ ∧ k_ ≠ gb398))) (fun _ hk => hk.2) (.slice Ao116 t390.length co116)) (fun _ hk => hk.2) (.int .i64 t393)) (fun _ hk => hk.2) (.slice Ao119 t394.length co119)) (fun _ h_ => h_.1))) hb); replace HO_386002 := Aside0.mk (Kd.V_below (by (with_reducible repeat (first | apply Kd.V_alloc | apply Kd.V_drewN | apply Kd.V_drew)); exact (Kd.V_mono (Kd.V_far (p := ⟨gb398, 2, none⟩) (Kd.V_far (p := ⟨gb398, 1, none⟩) (Kd.V_far (p := ⟨gb398, 0, none⟩) (Kd.V_mono HO_386002.out (fun k_ hk => (⟨hk, hk.2⟩ : _ ∧ k_ ≠ gb398))) (fun _ hk => hk.2) (.slice Ao116 t390.length co116)) (fun _ hk => hk.2) (.int .i64 t393)) (fun _ hk => hk.2) (.slice Ao119 t394.length co119)) (fun _ h_ => h_.1))) hb); replace HO392 := Aside0.mk (Kd.V_below (by (with_reducible repeat (first | apply Kd.V_alloc | apply Kd.V_drewN | apply Kd.V_drew)); exact (Kd.V_mono (Kd.V_far (p := ⟨gb398, 2, none⟩) (Kd.V_far (p := ⟨gb398, 1, none⟩) (Kd.V_far (p := ⟨gb398, 0, none⟩) (Kd.V_mono HO392.out (fun k_ hk => (⟨hk, hk.2⟩ : _ ∧ k_ ≠ gb398))) (fun _ hk => hk.2) (.slice Ao116 t390.length co116)) (fun _ hk => hk.2) (.int .i64 t393)) (fun _ hk => hk.2) (.slice Ao119 t394.length co119)) (fun _ h_ => h_.1))) hb); replace HO396 := Aside0.mk (Kd.V_below (by (with_reducible repeat (first | apply Kd.V_alloc | apply Kd.V_drewN | apply Kd.V_drew)); exact (Kd.V_mono (Kd.V_far (p := ⟨gb398, 2, none⟩) (Kd.V_far (p := ⟨gb398, 1, none⟩) (Kd.V_far (p := ⟨gb398, 0, none⟩) (Kd.V_mono HO396.out (fun k_ hk => (⟨hk, hk.2⟩ : _ ∧ k_ ≠ gb398))) (fun _ hk => hk.2) (.slice Ao116 t390.length co116)) (fun _ hk => hk.2) (.int .i64 t393)) (fun _ hk => hk.2) (.slice Ao119 t394.length co119)) (fun _ h_ => h_.1))) hb); replace BK385 := Aside0.mk (blk_below (g := gb385) (o := .cells #[.slice A0_0 l0_0.length c0_0, .int .i64 a0_1, .slice A0_2 l0_2.length c0_2] 25 (0, 0)) (by (with_reducible repeat (first | refine blk_drewN ?_ _ | refine blk_drew ?_ | refine blk_alloc ?_ _)); refine blk_far ?_ NB385_398.out _; (with_reducible repeat (first | refine blk_drewN ?_ _ | refine blk_drew ?_ | refine blk_alloc ?_ _)); refine blk_far ?_ NB385_398.out _; (with_reducible repeat (first | refine blk_drewN ?_ _ | refine blk_drew ?_ | refine blk_alloc ?_ _)); refine blk_far ?_ NB385_398.out _; (with_reducible repeat (first | refine blk_drewN ?_ _ | refine blk_drew ?_ | refine blk_alloc ?_ _)); exact BK385.out) hb); replace BK398 := Aside0.mk (blk_below (g := gb398) (o := .cells #[.slice Ao116 t390.length co116, .int .i64 t393, .slice Ao119 t394.length co119] 25 (0, 0)) (by (with_reducible repeat (first | refine blk_drewN ?_ _ | refine blk_drew ?_ | refine blk_alloc ?_ _)); refine blk_put (cs := #[.slice Ao116 t390.length co116, .int .i64 t393, .slice none 0 0]) ?_ 2 _ rfl; (with_reducible repeat (first | refine blk_drewN ?_ _ | refine blk_drew ?_ | refine blk_alloc ?_ _)); refine blk_put (cs := #[.slice Ao116 t390.length co116, .int .i64 0, .slice none 0 0]) ?_ 1 _ rfl; (with_reducible repeat (first | refine blk_drewN ?_ _ | refine blk_drew ?_ | refine blk_alloc ?_ _)); refine blk_put (cs := #[.slice none 0 0, .int .i64 0, .slice none 0 0]) ?_ 0 _ rfl; (with_reducible repeat (first | refine blk_drewN ?_ _ | refine blk_drew ?_ | refine blk_alloc ?_ _)); exact BK398.out) hb); replace HB := Aside0.mk (below_step (bq2_ HB.out GE385.out GE398.out) hb); (try clear hb); (try clear ho0); have hcz122_0 := cz0_ BK398.out; have hcz122_1 := cz1_ BK398.out; have hcz122_2 := cz2_ BK398.out; have hfz122_0 := blk_frozen BK398.out 0; have hfz122_1 := blk_frozen BK398.out 1; have hfz122_2 := blk_frozen BK398.out 2; have hcz123_0 := cz0_ BK385.out; have hcz123_1 := cz1_ BK385.out; have hcz123_2 := cz2_ BK385.out; have hfz123_0 := blk_frozen BK385.out 0; have hfz123_1 := blk_frozen BK385.out 1; have hfz123_2 := blk_frozen BK385.out 2) | (go_at_call 12; (with_reducible refine (fullerref18_Same.calls kj5 _ _ t390 t393 _ _ t394 _ _ l0_0 a0_1 _ _ l0_2 t402 _ ?side1 ?side2 ?side3 ?side4 ?side5 ?side6 ?side7 ?side8 A112.out).mono ?_); (case side1 => exact mvC_ ((Kd.V_reads' HO392.out).2.2)); (case side2 => exact (Kd.V_reads' HO392.out).2.1); (case side3 => exact mvC_ ((Kd.V_reads' HO396.out).2.2)); (case side4 => exact (Kd.V_reads' HO396.out).2.1); (case side5 => exact mvC_ ((Kd.V_reads' HO_386000.out).2.2)); (case side6 => exact (Kd.V_reads' HO_386000.out).2.1); (case side7 => exact mvC_ ((Kd.V_reads' HO_386002.out).2.2)); (case side8 => exact (Kd.V_reads' HO_386002.out).2.1); rintro e w124 ⟨rfl, hb⟩; replace HO_3 := mbV_ HO_3.out hb; replace HO_386000 := mbV_ HO_386000.out hb; replace HO_386002 := mbV_ HO_386002.out hb; replace HO392 := mbV_ HO392.out hb; replace HO396 := mbV_ HO396.out hb; replace HO401 := mbR_ HO401.out hb; replace BK385 := mvB_ BK385.out hb; replace BK398 := mvB_ BK398.out hb; replace HB := Aside0.mk (below_step (bq2_ HB.out GE385.out GE398.out) hb); (try clear hb)))
      go_ret
      exact ⟨by first | rfl | (simp <;> rfl) | (simp [*] <;> rfl), bq2_ HB.out GE385.out GE398.out⟩
     ·replace c111 := Bool.eq_false_iff.mpr c111
      subst c111
      have H1 : (some false) = some r := by rw [if_neg (show ¬ (false = true) by decide)] at H; exact H
      clear H
      have H := H1
      clear H1
      obtain rfl := Option.some.inj H
      have hcz125_0 := cz0_ BK385.out
      have hcz125_1 := cz1_ BK385.out
      have hcz125_2 := cz2_ BK385.out
      have hfz125_0 := blk_frozen BK385.out 0
      have hfz125_1 := blk_frozen BK385.out 1
      have hfz125_2 := blk_frozen BK385.out 2
      go_wp2_with (first | ((with_reducible refine gate_callee (f := 10) rfl ?_); refine gL_ (some 45) Try.func10 #[.agg #[.slice A0_0 l0_0.length c0_0, .int .i64 a0_1, .slice A0_2 l0_2.length c0_2], .int .i64 a1, .slice A2 l2.length c2, .slice A3 l3.length c3] ?_; (with_reducible refine (store_Commit.calls kj5 (fun k_ => (((P0_0_ k_ ∨ P0_2_ k_ ∨ P3_ k_) ∨ w.heap.size ≤ k_) ∧ k_ ≠ gb385)) _ _ l0_0 a0_1 (fun k_ => (((P0_0_ k_ ∨ P0_2_ k_ ∨ P3_ k_) ∨ w.heap.size ≤ k_) ∧ k_ ≠ gb385)) _ _ l0_2 a1 _ _ l2 _ _ l3 t390 t393 t394 t397 _ ?side1 ?side2 ?side3 ?side4 ?side5 ?side6 A28.out).mono ?_); (case side1 => (with_reducible repeat (first | apply Kd.V_alloc | apply Kd.V_drewN | apply Kd.V_drew)); first | with_reducible exact HO_386000.out | exact HO_386000.out | exact Kd.V_mono HO_386000.out (fun _ h_ => by simpa only [and_assoc, and_comm, and_left_comm] using h_)); (case side2 => (with_reducible repeat (first | apply Kd.V_alloc | apply Kd.V_drewN | apply Kd.V_drew)); first | with_reducible exact HO_386002.out | exact HO_386002.out | exact Kd.V_mono HO_386002.out (fun _ h_ => by simpa only [and_assoc, and_comm, and_left_comm] using h_)); (case side3 => exact mvC_ ((Kd.C_below HR2.out HB.out))); (case side4 => exact HC2.out); (case side5 => exact mvC_ ((Kd.V_reads' HO_3.out).2.2)); (case side6 => exact (Kd.V_reads' HO_3.out).2.1); rintro e w126 ⟨v391, v395, rfl, ho0, ho1, hb⟩; refine ⟨_, rfl, ?_⟩; have HO392 := Aside0.mk (Kd.V_lower (Kd.V_mono (ok' := fun k_ => ((P0_0_ k_ ∨ P0_2_ k_ ∨ P3_ k_) ∨ w.heap.size ≤ k_) ∧ k_ ≠ gb385) ho0 (fun k_ hk_ => ⟨Or.elim hk_ (fun hs_ => Or.elim hs_ (fun hs_ => hs_.1) (fun hs_ => hs_.1)) (fun hn_ => (.inr (Nat.le_trans (below_size (bq1_ HB.out GE385.out)) hn_))), Or.elim hk_ (fun hs_ => Or.elim hs_ (fun hs_ => hs_.2) (fun hs_ => hs_.2)) (fun hn_ => (mvF_ BK385.out hn_))⟩)) (below_size (bq1_ HB.out GE385.out))); have HO396 := Aside0.mk (Kd.V_lower (Kd.V_mono (ok' := fun k_ => ((P0_0_ k_ ∨ P0_2_ k_ ∨ P3_ k_) ∨ w.heap.size ≤ k_) ∧ k_ ≠ gb385) ho1 (fun k_ hk_ => ⟨Or.elim hk_ (fun hs_ => Or.elim hs_ (fun hs_ => hs_.1) (fun hs_ => hs_.1)) (fun hn_ => (.inr (Nat.le_trans (below_size (bq1_ HB.out GE385.out)) hn_))), Or.elim hk_ (fun hs_ => Or.elim hs_ (fun hs_ => hs_.2) (fun hs_ => hs_.2)) (fun hn_ => (mvF_ BK385.out hn_))⟩)) (below_size (bq1_ HB.out GE385.out))); replace HO_3 := mbV_ HO_3.out hb; replace HO_386000 := mbV_ HO_386000.out hb; replace HO_386002 := mbV_ HO_386002.out hb; replace BK385 := mvB_ BK385.out hb; replace HB := Aside0.mk (below_step (bq1_ HB.out GE385.out) hb); (try clear hb); (try clear ho0); (try clear ho1)) | ((with_reducible refine gate_dst (N := 10) rfl ?_); (try (refine gate_guard (by rfl) ?_; dsimp only)); refine box_event ?hg (N := 10) ?hd (cs := #[.slice none 0 0, .int .i64 0, .slice none 0 0]) (t := 25) ?hr ?_; (case hd => rfl); (case hg => rfl); (case hr => first | (go_simp; done) | (go_simp; rfl)); intro gb398 hg w127 hbox hb; have BK398 := Aside0.mk (hbox); have GW398 := Aside0.mk ((by rw [hg]; exact (below_size (bq1_ HB.out GE385.out)) : w.heap.size ≤ gb398)); have GE398 := Aside0.mk ((by rw [hg]; exact (below_size (bq1_ HB.out GE385.out)) : w.heap.size ≤ gb398)); have NB385_398 := Aside0.mk ((by rw [hg]; exact Nat.ne_of_lt (blk_lt (g := gb385) (o := .cells #[.slice A0_0 l0_0.length c0_0, .int .i64 a0_1, .slice A0_2 l0_2.length c0_2] 25 (0, 0)) (mvK_ BK385.out)) : gb385 ≠ gb398)); have NB398_385 := Aside0.mk ((by rw [hg]; exact Nat.ne_of_gt (blk_lt (g := gb385) (o := .cells #[.slice A0_0 l0_0.length c0_0, .int .i64 a0_1, .slice A0_2 l0_2.length c0_2] 25 (0, 0)) (mvK_ BK385.out)) : gb398 ≠ gb385)); replace HO_3 := Aside0.mk (Kd.V_below (Kd.V_elderB (mvV_ HO_3.out) gb398 (Nat.le_of_eq hg.symm)) hb); replace HO_386000 := Aside0.mk (Kd.V_below (Kd.V_elderB (mvV_ HO_386000.out) gb398 (Nat.le_of_eq hg.symm)) hb); replace HO_386002 := Aside0.mk (Kd.V_below (Kd.V_elderB (mvV_ HO_386002.out) gb398 (Nat.le_of_eq hg.symm)) hb); replace HO392 := Aside0.mk (Kd.V_below (Kd.V_elderB (mvV_ HO392.out) gb398 (Nat.le_of_eq hg.symm)) hb); replace HO396 := Aside0.mk (Kd.V_below (Kd.V_elderB (mvV_ HO396.out) gb398 (Nat.le_of_eq hg.symm)) hb); replace BK385 := mvB_ BK385.out hb; replace HB := Aside0.mk (below_step (bq1_ HB.out GE385.out) hb); clear hb hbox hg; obtain ⟨Ao128, co128, eo128⟩ := Kd.V_slice HO392.out; subst eo128; have hnb129 := NB398_385.out; have hnc129 := NB385_398.out; have hcz130_0 := cz0_ BK398.out; have hcz130_1 := cz1_ BK398.out; have hcz130_2 := cz2_ BK398.out; have hfz130_0 := blk_frozen BK398.out 0; have hfz130_1 := blk_frozen BK398.out 1; have hfz130_2 := blk_frozen BK398.out 2; obtain ⟨Ao131, co131, eo131⟩ := Kd.V_slice HO396.out; subst eo131; have hcz132_0 := cz0_ BK385.out; have hcz132_1 := cz1_ BK385.out; have hcz132_2 := cz2_ BK385.out; have hfz132_0 := blk_frozen BK385.out 0; have hfz132_1 := blk_frozen BK385.out 1; have hfz132_2 := blk_frozen BK385.out 2) | ((with_reducible refine gate_callee (f := 11) rfl ?_); refine gL_ (some 51) Try.func11 #[.agg #[.slice A0_0 l0_0.length c0_0, .int .i64 a0_1, .slice A0_2 l0_2.length c0_2], .int .i64 a0_1] ?_; (with_reducible refine (store_All.calls kj5 _ _ l0_0 a0_1 _ _ l0_2 a0_1 t399 _ ?side1 ?side2 ?side3 ?side4 A29.out).mono ?_); (case side1 => refine (Kd.V_reads' (e := 54) (base := w.heap.size) (ok := fun k_ => ((((P0_0_ k_ ∨ P0_2_ k_ ∨ P3_ k_) ∨ w.heap.size ≤ k_) ∧ k_ ≠ gb385) ∧ k_ ≠ gb398)) (n := l0_0.length) (c := c0_0) ?_).2.2; exact (by (with_reducible repeat (first | apply Kd.V_alloc | apply Kd.V_drewN | apply Kd.V_drew)); exact (Kd.V_mono (Kd.V_far (p := ⟨gb398, 2, none⟩) (Kd.V_far (p := ⟨gb398, 1, none⟩) (Kd.V_far (p := ⟨gb398, 0, none⟩) (Kd.V_mono HO_386000.out (fun k_ hk => (⟨hk, hk.2⟩ : _ ∧ k_ ≠ gb398))) (fun _ hk => hk.2) (.slice Ao128 t390.length co128)) (fun _ hk => hk.2) (.int .i64 t393)) (fun _ hk => hk.2) (.slice Ao131 t394.length co131)) (fun _ h_ => h_.1)))); (case side2 => exact (Kd.V_reads' HO_386000.out).2.1); (case side3 => refine (Kd.V_reads' (e := 3) (base := w.heap.size) (ok := fun k_ => ((((P0_0_ k_ ∨ P0_2_ k_ ∨ P3_ k_) ∨ w.heap.size ≤ k_) ∧ k_ ≠ gb385) ∧ k_ ≠ gb398)) (n := l0_2.length) (c := c0_2) ?_).2.2; exact (by (with_reducible repeat (first | apply Kd.V_alloc | apply Kd.V_drewN | apply Kd.V_drew)); exact (Kd.V_mono (Kd.V_far (p := ⟨gb398, 2, none⟩) (Kd.V_far (p := ⟨gb398, 1, none⟩) (Kd.V_far (p := ⟨gb398, 0, none⟩) (Kd.V_mono HO_386002.out (fun k_ hk => (⟨hk, hk.2⟩ : _ ∧ k_ ≠ gb398))) (fun _ hk => hk.2) (.slice Ao128 t390.length co128)) (fun _ hk => hk.2) (.int .i64 t393)) (fun _ hk => hk.2) (.slice Ao131 t394.length co131)) (fun _ h_ => h_.1)))); (case side4 => exact (Kd.V_reads' HO_386002.out).2.1); rintro e w133 ⟨v400, rfl, ho0, hb⟩; refine ⟨_, rfl, ?_⟩; have HO401 := Aside0.mk (Kd.R_lower (Kd.R_newM (M := fun k_ => (w.heap.size ≤ k_)) ho0 (below_size (bq2_ HB.out GE385.out GE398.out)) (fun k_ h_ => h_)) (below_size (bq2_ HB.out GE385.out GE398.out))); replace HO_3 := Aside0.mk (Kd.V_below (by (with_reducible repeat (first | apply Kd.V_alloc | apply Kd.V_drewN | apply Kd.V_drew)); exact (Kd.V_mono (Kd.V_far (p := ⟨gb398, 2, none⟩) (Kd.V_far (p := ⟨gb398, 1, none⟩) (Kd.V_far (p := ⟨gb398, 0, none⟩) (Kd.V_mono HO_3.out (fun k_ hk => (⟨hk, hk.2⟩ : _ ∧ k_ ≠ gb398))) (fun _ hk => hk.2) (.slice Ao128 t390.length co128)) (fun _ hk => hk.2) (.int .i64 t393)) (fun _ hk => hk.2) (.slice Ao131 t394.length co131)) (fun _ h_ => h_.1))) hb); replace HO_386000 := Aside0.mk (Kd.V_below (by (with_reducible repeat (first | apply Kd.V_alloc | apply Kd.V_drewN | apply Kd.V_drew)); exact (Kd.V_mono (Kd.V_far (p := ⟨gb398, 2, none⟩) (Kd.V_far (p := ⟨gb398, 1, none⟩) (Kd.V_far (p := ⟨gb398, 0, none⟩) (Kd.V_mono HO_386000.out (fun k_ hk => (⟨hk, hk.2⟩ : _ ∧ k_ ≠ gb398))) (fun _ hk => hk.2) (.slice Ao128 t390.length co128)) (fun _ hk => hk.2) (.int .i64 t393)) (fun _ hk => hk.2) (.slice Ao131 t394.length co131)) (fun _ h_ => h_.1))) hb); replace HO_386002 := Aside0.mk (Kd.V_below (by (with_reducible repeat (first | apply Kd.V_alloc | apply Kd.V_drewN | apply Kd.V_drew)); exact (Kd.V_mono (Kd.V_far (p := ⟨gb398, 2, none⟩) (Kd.V_far (p := ⟨gb398, 1, none⟩) (Kd.V_far (p := ⟨gb398, 0, none⟩) (Kd.V_mono HO_386002.out (fun k_ hk => (⟨hk, hk.2⟩ : _ ∧ k_ ≠ gb398))) (fun _ hk => hk.2) (.slice Ao128 t390.length co128)) (fun _ hk => hk.2) (.int .i64 t393)) (fun _ hk => hk.2) (.slice Ao131 t394.length co131)) (fun _ h_ => h_.1))) hb); replace HO392 := Aside0.mk (Kd.V_below (by (with_reducible repeat (first | apply Kd.V_alloc | apply Kd.V_drewN | apply Kd.V_drew)); exact (Kd.V_mono (Kd.V_far (p := ⟨gb398, 2, none⟩) (Kd.V_far (p := ⟨gb398, 1, none⟩) (Kd.V_far (p := ⟨gb398, 0, none⟩) (Kd.V_mono HO392.out (fun k_ hk => (⟨hk, hk.2⟩ : _ ∧ k_ ≠ gb398))) (fun _ hk => hk.2) (.slice Ao128 t390.length co128)) (fun _ hk => hk.2) (.int .i64 t393)) (fun _ hk => hk.2) (.slice Ao131 t394.length co131)) (fun _ h_ => h_.1))) hb); replace HO396 := Aside0.mk (Kd.V_below (by (with_reducible repeat (first | apply Kd.V_alloc | apply Kd.V_drewN | apply Kd.V_drew)); exact (Kd.V_mono (Kd.V_far (p := ⟨gb398, 2, none⟩) (Kd.V_far (p := ⟨gb398, 1, none⟩) (Kd.V_far (p := ⟨gb398, 0, none⟩) (Kd.V_mono HO396.out (fun k_ hk => (⟨hk, hk.2⟩ : _ ∧ k_ ≠ gb398))) (fun _ hk => hk.2) (.slice Ao128 t390.length co128)) (fun _ hk => hk.2) (.int .i64 t393)) (fun _ hk => hk.2) (.slice Ao131 t394.length co131)) (fun _ h_ => h_.1))) hb); replace BK385 := Aside0.mk (blk_below (g := gb385) (o := .cells #[.slice A0_0 l0_0.length c0_0, .int .i64 a0_1, .slice A0_2 l0_2.length c0_2] 25 (0, 0)) (by (with_reducible repeat (first | refine blk_drewN ?_ _ | refine blk_drew ?_ | refine blk_alloc ?_ _)); refine blk_far ?_ NB385_398.out _; (with_reducible repeat (first | refine blk_drewN ?_ _ | refine blk_drew ?_ | refine blk_alloc ?_ _)); refine blk_far ?_ NB385_398.out _; (with_reducible repeat (first | refine blk_drewN ?_ _ | refine blk_drew ?_ | refine blk_alloc ?_ _)); refine blk_far ?_ NB385_398.out _; (with_reducible repeat (first | refine blk_drewN ?_ _ | refine blk_drew ?_ | refine blk_alloc ?_ _)); exact BK385.out) hb); replace BK398 := Aside0.mk (blk_below (g := gb398) (o := .cells #[.slice Ao128 t390.length co128, .int .i64 t393, .slice Ao131 t394.length co131] 25 (0, 0)) (by (with_reducible repeat (first | refine blk_drewN ?_ _ | refine blk_drew ?_ | refine blk_alloc ?_ _)); refine blk_put (cs := #[.slice Ao128 t390.length co128, .int .i64 t393, .slice none 0 0]) ?_ 2 _ rfl; (with_reducible repeat (first | refine blk_drewN ?_ _ | refine blk_drew ?_ | refine blk_alloc ?_ _)); refine blk_put (cs := #[.slice Ao128 t390.length co128, .int .i64 0, .slice none 0 0]) ?_ 1 _ rfl; (with_reducible repeat (first | refine blk_drewN ?_ _ | refine blk_drew ?_ | refine blk_alloc ?_ _)); refine blk_put (cs := #[.slice none 0 0, .int .i64 0, .slice none 0 0]) ?_ 0 _ rfl; (with_reducible repeat (first | refine blk_drewN ?_ _ | refine blk_drew ?_ | refine blk_alloc ?_ _)); exact BK398.out) hb); replace HB := Aside0.mk (below_step (bq2_ HB.out GE385.out GE398.out) hb); (try clear hb); (try clear ho0)))
      go_ret
      exact ⟨by first | rfl | (simp <;> rfl) | (simp [*] <;> rfl), bq2_ HB.out GE385.out GE398.out⟩
def fullerlaw18_StoreCommits.Pure : Prop := ∀ (l0_0 : List (List (S74))) (a0_1 : Int) (l0_2 : List Int) (a1 : Int) (l2 : List Int) (l3 : List (S42)), (l0_0.length * 24 ≤ 140737488351232 ∧ ∀ x_ ∈ l0_0, x_.length * 56 ≤ 140737488351232 ∧ ∀ y_ ∈ x_, OK74 y_) → ((Lit.int .i64 a0_1).wf = true) → (l0_2.length * 8 ≤ 140737488351232 ∧ ∀ x_ ∈ l0_2, (Lit.int .i64 x_).wf = true) → ((Lit.int .i64 a1).wf = true) → (l2.length * 8 ≤ 140737488351232 ∧ ∀ x_ ∈ l2, (Lit.int .i64 x_).wf = true) → (l3.length * 56 ≤ 140737488351232 ∧ ∀ x_ ∈ l3, OK42 x_) → ∃ k, fullerlaw18_StoreCommits.f k l0_0 a0_1 l0_2 a1 l2 l3 = some true
theorem fullerlaw18_StoreCommits.walk (P : fullerlaw18_StoreCommits.Pure) (P0_0_ : Nat → Prop) (A0_0 : Option Addr) (c0_0 : Nat) (l0_0 : List (List (S74))) (a0_1 : Int) (P0_2_ : Nat → Prop) (A0_2 : Option Addr) (c0_2 : Nat) (l0_2 : List Int) (a1 : Int) (A2 : Option Addr) (c2 : Nat) (l2 : List Int) (P3_ : Nat → Prop) (A3 : Option Addr) (c3 : Nat) (l3 : List (S42)) (w : World) (hr0_0 : Kd.C (Kd.slice 74 k74) w A0_0 l0_0.length l0_0) (hc0_0 : l0_0.length ≤ c0_0) (hr0_2 : Kd.C (Kd.int .i64) w A0_2 l0_2.length l0_2) (hc0_2 : l0_2.length ≤ c0_2) (hr2 : Kd.C (Kd.int .i64) w A2 l2.length l2) (hc2 : l2.length ≤ c2) (hr3 : Kd.C k42 w A3 l3.length l3) (hc3 : l3.length ≤ c3) (hg0_0 : l0_0.length * 24 ≤ 140737488351232 ∧ ∀ x_ ∈ l0_0, x_.length * 56 ≤ 140737488351232 ∧ ∀ y_ ∈ x_, OK74 y_) (hg0_1 : (Lit.int .i64 a0_1).wf = true) (hg0_2 : l0_2.length * 8 ≤ 140737488351232 ∧ ∀ x_ ∈ l0_2, (Lit.int .i64 x_).wf = true) (hg1 : (Lit.int .i64 a1).wf = true) (hg2 : l2.length * 8 ≤ 140737488351232 ∧ ∀ x_ ∈ l2, (Lit.int .i64 x_).wf = true) (hg3 : l3.length * 56 ≤ 140737488351232 ∧ ∀ x_ ∈ l3, OK42 x_) :
  Calls Try.prog 3 #[.agg #[.slice A0_0 l0_0.length c0_0, .int .i64 a0_1, .slice A0_2 l0_2.length c0_2], .int .i64 a1, .slice A2 l2.length c2, .slice A3 l3.length c3] w fun e w' => e = .returned (.bool true) ∧ Below w.heap.size w w' := by
 obtain ⟨k, h⟩ := P l0_0 a0_1 l0_2 a1 l2 l3 hg0_0 hg0_1 hg0_2 hg1 hg2 hg3
 refine (fullerlaw18_StoreCommits.calls k (fun k_ => k_ < w.heap.size) _ _ l0_0 a0_1 (fun k_ => k_ < w.heap.size) _ _ l0_2 a1 _ _ l2 (fun k_ => k_ < w.heap.size) _ _ l3 true w (Kd.V_mk hc0_0 (Kd.C_F (Kd.heap_slice 74 k74_heap) hr0_0)) (Kd.V_mk hc0_2 (Kd.C_F (Kd.heap_int .i64) hr0_2)) hr2 hc2 (Kd.V_mk hc3 (Kd.C_F k42_heap hr3)) h).mono ?_
 rintro e w' ⟨rfl, hd⟩
 exact ⟨rfl, hd⟩
end Go.Proofs.Ytmolbbebglfhmaa.A
