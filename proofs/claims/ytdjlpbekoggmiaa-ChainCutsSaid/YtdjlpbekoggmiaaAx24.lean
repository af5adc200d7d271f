/- Lean functions that answer as the Go functions do, and the proofs that they do; no conditions. Written by this session's own driver: a scratch copy of the kit's print with the session's additions (wip/xprint). -/
import Derived.Test.YtdjlpbekoggmiaaAx0
import Derived.Test.YtdjlpbekoggmiaaAx4
import Derived.Test.YtdjlpbekoggmiaaAx7
import Derived.Test.YtdjlpbekoggmiaaAx11
import Derived.Test.YtdjlpbekoggmiaaAx12
import Derived.Test.YtdjlpbekoggmiaaAx18
namespace Go.Proofs.Ytdjlpbekoggmiaa.A
open Go.RowKit Go.Proofs.YtdjlpbekoggmiaaW.PrintWords Go.Proofs.YtdjlpbekoggmiaaW.PrintLast Go.Proofs.YtdjlpbekoggmiaaW.PrintMore
attribute [local go_sem] max2_int min2_int max_two min_two max_three min_three max_four min_four   -- for this text's walks alone
set_option linter.unusedVariables false
set_option linter.unusedSimpArgs false

def L6_0 : Array Bool := #[false, false, false, false, false, false, false, false, false, false, false, false, false, false, false, false, false, false, false, false, false, false, false, false]
def L6_1 : Array Bool := #[true, false, false, false, false, false, false, false, false, false, false, false, false, false, false, false, false, false, false, false, false, false, false, false]
def L6_2 : Array Bool := #[true, true, false, false, false, false, false, false, false, false, false, false, false, false, false, false, false, false, false, false, false, false, false, false]
def L6_3 : Array Bool := #[true, true, true, false, false, false, false, false, false, false, false, false, false, false, false, false, false, false, false, false, false, false, false, false]
def L6_4 : Array Bool := #[true, true, true, true, false, false, false, false, false, false, false, false, false, false, false, false, false, false, false, false, false, false, false, false]
def L6_5 : Array Bool := #[true, true, true, true, true, false, false, false, false, false, false, false, false, false, false, false, false, false, false, false, false, false, false, false]
def L6_6 : Array Bool := #[true, true, true, true, true, true, false, false, false, false, false, false, false, false, false, false, false, false, false, false, false, false, false, false]
def L6_7 : Array Bool := #[true, true, true, true, true, true, true, false, false, false, false, false, false, false, false, false, false, false, false, false, false, false, false, false]
def L6_8 : Array Bool := #[true, true, true, true, true, true, true, true, false, false, false, false, false, false, false, false, false, false, false, false, false, false, false, false]
def L6_9 : Array Bool := #[true, true, true, true, true, true, true, true, true, false, false, false, false, false, false, false, false, false, false, false, false, false, false, false]
def L6_10 : Array Bool := #[true, true, true, true, true, true, true, true, true, true, false, false, false, false, false, false, false, false, false, false, false, false, false, false]
def L6_11 : Array Bool := #[true, true, true, true, true, true, true, true, true, true, true, false, false, false, false, false, false, false, false, false, false, false, false, false]
def L6_12 : Array Bool := #[true, true, true, true, true, true, true, true, true, true, true, true, false, false, false, false, false, false, false, false, false, false, false, false]
def L6_13 : Array Bool := #[true, true, true, true, true, true, true, true, true, true, true, true, true, false, false, false, false, false, false, false, false, false, false, false]
def L6_14 : Array Bool := #[true, true, true, true, true, true, true, true, true, true, true, true, true, false, true, false, false, false, false, false, false, false, false, false]
def L6_15 : Array Bool := #[true, true, true, true, true, true, true, true, true, true, true, true, true, false, true, true, false, false, false, false, false, false, false, false]
def L6_16 : Array Bool := #[true, true, true, true, true, true, true, true, true, true, true, true, true, false, true, true, true, false, false, false, false, false, false, false]
def L6_17 : Array Bool := #[true, true, true, true, true, true, true, true, true, true, true, true, true, false, true, true, true, true, false, false, false, false, false, false]
def L6_18 : Array Bool := #[true, true, true, true, true, true, true, true, true, true, true, true, true, false, true, true, true, true, true, false, false, false, false, false]
def L6_19 : Array Bool := #[true, true, true, true, true, true, true, true, true, true, true, true, true, true, true, true, true, true, true, false, false, false, false, false]
def L6_20 : Array Bool := #[true, true, true, true, true, true, true, true, true, true, true, true, true, true, true, true, true, true, true, true, false, false, false, false]
def L6_21 : Array Bool := #[true, true, true, true, true, true, true, true, true, true, true, true, true, true, true, true, true, true, true, true, true, false, false, false]
def L6_22 : Array Bool := #[true, true, true, true, true, true, true, true, true, true, true, true, true, true, true, true, true, true, true, true, true, true, false, false]
def L6_23 : Array Bool := #[true, true, true, true, true, true, true, true, true, true, true, true, true, true, true, true, true, true, true, true, true, true, true, false]
def L6_24 : Array Bool := #[true, true, true, true, true, true, true, true, true, true, true, true, true, true, true, true, true, true, true, true, true, true, true, true]
/-! ### fullerlaw17_ChainCuts: function 6 -/
mutual
def fullerlaw17_ChainCuts.j0 : Nat → List (S41) → Int → Int → Bool → Bool → Option (Bool)
 | 0, _, _, _, _, _ => none
 | k + 1, x0, x1, x2, x7, x25 => if x25 = true then (some x7) else (if (wrap64 ((x0.length : Int) + 1)) = 0 then (none) else ((chain_Read.f k x0 x2).bind fun bt394 => (if 0 ≤ (Int.tmod (wrap64 (x1)) (wrap64 ((x0.length : Int) + 1))) then (if (Int.tmod (wrap64 (x1)) (wrap64 ((x0.length : Int) + 1))) ≤ (x0.length : Int) then ((chain_Read.f k (x0.take ((Int.tmod (wrap64 (x1)) (wrap64 ((x0.length : Int) + 1))) : Int).toNat) x2).bind fun bt406 => (if (Int.tmod (wrap64 (x1)) (wrap64 ((x0.length : Int) + 1))) = (x0.length : Int) then (fullerlaw17_ChainCuts.j1 k x0 x2 x7 (Int.tmod (wrap64 (x1)) (wrap64 ((x0.length : Int) + 1))) bt394.2.2 bt406.2.2 true bt394.1 bt394.2.1 bt406.1 bt406.2.1) else (if 0 ≤ (mn (Int.tmod (wrap64 (x1)) (wrap64 ((x0.length : Int) + 1))) (mx 0 (wrap64 ((x0.length : Int) - 1)))) then (if (mn (Int.tmod (wrap64 (x1)) (wrap64 ((x0.length : Int) + 1))) (mx 0 (wrap64 ((x0.length : Int) - 1)))) < (x0.length : Int) then (fullerlaw17_ChainCuts.j1 k x0 x2 x7 (Int.tmod (wrap64 (x1)) (wrap64 ((x0.length : Int) + 1))) bt394.2.2 bt406.2.2 (decide (x2 < ((rd_T41 x0 (mn (Int.tmod (wrap64 (x1)) (wrap64 ((x0.length : Int) + 1))) (mx 0 (wrap64 ((x0.length : Int) - 1))))).f0))) bt394.1 bt394.2.1 bt406.1 bt406.2.1) else (none)) else (none)))) else (none)) else (none))))
def fullerlaw17_ChainCuts.j1 : Nat → List (S41) → Int → Bool → Int → Bool → Bool → Bool → List Int → List Int → List Int → List Int → Option (Bool)
 | 0, _, _, _, _, _, _, _, _, _, _, _ => none
 | k + 1, x0, x2, x7, x8, x10, x12, x13, x402000, x402001, x414000, x414001 => fullerlaw17_ChainCuts.l0 k x0 x2 x7 x8 x10 x12 x13 (-1) 0 x402000 x402001 x414000 x414001
def fullerlaw17_ChainCuts.l0 : Nat → List (S41) → Int → Bool → Int → Bool → Bool → Bool → Int → Int → List Int → List Int → List Int → List Int → Option (Bool)
 | 0, _, _, _, _, _, _, _, _, _, _, _, _, _ => none
 | k + 1, x0, x2, x7, x8, x10, x12, x13, x14, x15, x402000, x402001, x414000, x414001 => if x15 < (x0.length : Int) then (if 0 ≤ x15 then (if ((rd_T41 x0 x15).f0) ≤ x2 then (fullerlaw17_ChainCuts.l0 k x0 x2 x7 x8 x10 x12 x13 x15 (wrap64 (x15 + 1)) x402000 x402001 x414000 x414001) else (fullerlaw17_ChainCuts.l0 k x0 x2 x7 x8 x10 x12 x13 x14 (wrap64 (x15 + 1)) x402000 x402001 x414000 x414001)) else (none)) else (if x14 < 0 then (if x10 = true then (if x14 ≥ 0 then (if 0 ≤ (mx 0 x14) then (if (mx 0 x14) < (x0.length : Int) then ((fullerref03_Same.f k x402000 x402001 ((rd_T41 x0 (mx 0 x14)).f1.f0) ((rd_T41 x0 (mx 0 x14)).f1.f1)).bind fun t417 => (if x7 = true then (if 0 ≤ x8 then (if x8 ≤ (x0.length : Int) then ((chain_Check.f k (x0.take (x8 : Int).toNat)).bind fun t422 => (if t422 = true then (if t417 = true then (if x13 = true then (if (x10 == x12) = true then ((fullerref03_Same.f k x402000 x402001 x414000 x414001).bind fun t423 => (some t423)) else (none)) else (some true)) else (none)) else (none))) else (none)) else (none)) else (none))) else (none)) else (none)) else (none)) else (if x7 = true then (if 0 ≤ x8 then (if x8 ≤ (x0.length : Int) then ((chain_Check.f k (x0.take (x8 : Int).toNat)).bind fun t428 => (if t428 = true then (if x13 = true then (if (x10 == x12) = true then ((fullerref03_Same.f k x402000 x402001 x414000 x414001).bind fun t429 => (some t429)) else (none)) else (some true)) else (none))) else (none)) else (none)) else (none))) else (if x14 ≥ 0 then (if x10 = true then (if 0 ≤ (mx 0 x14) then (if (mx 0 x14) < (x0.length : Int) then ((fullerref03_Same.f k x402000 x402001 ((rd_T41 x0 (mx 0 x14)).f1.f0) ((rd_T41 x0 (mx 0 x14)).f1.f1)).bind fun t431 => (if x7 = true then (if 0 ≤ x8 then (if x8 ≤ (x0.length : Int) then ((chain_Check.f k (x0.take (x8 : Int).toNat)).bind fun t436 => (if t436 = true then (if t431 = true then (if x13 = true then (if (x10 == x12) = true then ((fullerref03_Same.f k x402000 x402001 x414000 x414001).bind fun t437 => (some t437)) else (none)) else (some true)) else (none)) else (none))) else (none)) else (none)) else (none))) else (none)) else (none)) else (none)) else (none)))
end
def fullerlaw17_ChainCuts.f (k : Nat) (l0 : List (S41)) (a1 : Int) (a2 : Int) : Option (Bool) := (fullerlaw17_awake.f k).bind fun t391 => ((fullerref17_Few.f k l0).bind fun t392 => (if t392 = true then ((chain_Check.f k l0).bind fun t393 => (fullerlaw17_ChainCuts.j0 k l0 a1 a2 t391 (!t393))) else (fullerlaw17_ChainCuts.j0 k l0 a1 a2 t391 true)))
theorem fullerlaw17_ChainCuts.mono_l : ∀ k, (∀ y0 y1 y2 y3 y4, LeO (fullerlaw17_ChainCuts.j0 k y0 y1 y2 y3 y4) (fullerlaw17_ChainCuts.j0 (k + 1) y0 y1 y2 y3 y4)) ∧ (∀ y0 y1 y2 y3 y4 y5 y6 y7 y8 y9 y10, LeO (fullerlaw17_ChainCuts.j1 k y0 y1 y2 y3 y4 y5 y6 y7 y8 y9 y10) (fullerlaw17_ChainCuts.j1 (k + 1) y0 y1 y2 y3 y4 y5 y6 y7 y8 y9 y10)) ∧ (∀ y0 y1 y2 y3 y4 y5 y6 y7 y8 y9 y10 y11 y12, LeO (fullerlaw17_ChainCuts.l0 k y0 y1 y2 y3 y4 y5 y6 y7 y8 y9 y10 y11 y12) (fullerlaw17_ChainCuts.l0 (k + 1) y0 y1 y2 y3 y4 y5 y6 y7 y8 y9 y10 y11 y12))
 | 0 => ⟨fun _ _ _ _ _ r h => by simp [fullerlaw17_ChainCuts.j0] at h, fun _ _ _ _ _ _ _ _ _ _ _ r h => by simp [fullerlaw17_ChainCuts.j1] at h, fun _ _ _ _ _ _ _ _ _ _ _ _ _ r h => by simp [fullerlaw17_ChainCuts.l0] at h⟩
 | k + 1 => by
  obtain ⟨ih0, ih1, ih2⟩ := fullerlaw17_ChainCuts.mono_l k
  refine ⟨?_, ?_, ?_⟩
  ·intro y0 y1 y2 y3 y4
   unfold fullerlaw17_ChainCuts.j0
   repeat' first
   | (with_reducible exact ih0 _ _ _ _ _)
   | (with_reducible exact ih1 _ _ _ _ _ _ _ _ _ _ _)
   | (with_reducible exact ih2 _ _ _ _ _ _ _ _ _ _ _ _ _)
   | (with_reducible exact chain_Check.mono _ _)
   | (with_reducible exact chain_Read.mono _ _ _)
   | (with_reducible exact fullerlaw17_awake.mono _)
   | (with_reducible exact fullerref03_Same.mono _ _ _ _ _)
   | (with_reducible exact fullerref17_Few.mono _ _)
   | (with_reducible exact LeO.refl _)
   | (with_reducible exact LeO.none _)
   | (with_reducible refine LeO.ite ?_ ?_)
   | (with_reducible refine LeO.bind ?_ (fun _ => ?_))
   | exact ih0 _ _ _ _ _
   | exact ih1 _ _ _ _ _ _ _ _ _ _ _
   | exact ih2 _ _ _ _ _ _ _ _ _ _ _ _ _
   | exact chain_Check.mono _ _
   | exact chain_Read.mono _ _ _
   | exact fullerlaw17_awake.mono _
   | exact fullerref03_Same.mono _ _ _ _ _
   | exact fullerref17_Few.mono _ _
   | exact LeO.none _
   | refine LeO.ite ?_ ?_
   | refine LeO.bind ?_ (fun _ => ?_)
  ·intro y0 y1 y2 y3 y4 y5 y6 y7 y8 y9 y10
   unfold fullerlaw17_ChainCuts.j1
   repeat' first
   | (with_reducible exact ih0 _ _ _ _ _)
   | (with_reducible exact ih1 _ _ _ _ _ _ _ _ _ _ _)
   | (with_reducible exact ih2 _ _ _ _ _ _ _ _ _ _ _ _ _)
   | (with_reducible exact chain_Check.mono _ _)
   | (with_reducible exact chain_Read.mono _ _ _)
   | (with_reducible exact fullerlaw17_awake.mono _)
   | (with_reducible exact fullerref03_Same.mono _ _ _ _ _)
   | (with_reducible exact fullerref17_Few.mono _ _)
   | (with_reducible exact LeO.refl _)
   | (with_reducible exact LeO.none _)
   | (with_reducible refine LeO.ite ?_ ?_)
   | (with_reducible refine LeO.bind ?_ (fun _ => ?_))
   | exact ih0 _ _ _ _ _
   | exact ih1 _ _ _ _ _ _ _ _ _ _ _
   | exact ih2 _ _ _ _ _ _ _ _ _ _ _ _ _
   | exact chain_Check.mono _ _
   | exact chain_Read.mono _ _ _
   | exact fullerlaw17_awake.mono _
   | exact fullerref03_Same.mono _ _ _ _ _
   | exact fullerref17_Few.mono _ _
   | exact LeO.none _
   | refine LeO.ite ?_ ?_
   | refine LeO.bind ?_ (fun _ => ?_)
  ·intro y0 y1 y2 y3 y4 y5 y6 y7 y8 y9 y10 y11 y12
   unfold fullerlaw17_ChainCuts.l0
   repeat' first
   | (with_reducible exact ih0 _ _ _ _ _)
   | (with_reducible exact ih1 _ _ _ _ _ _ _ _ _ _ _)
   | (with_reducible exact ih2 _ _ _ _ _ _ _ _ _ _ _ _ _)
   | (with_reducible exact chain_Check.mono _ _)
   | (with_reducible exact chain_Read.mono _ _ _)
   | (with_reducible exact fullerlaw17_awake.mono _)
   | (with_reducible exact fullerref03_Same.mono _ _ _ _ _)
   | (with_reducible exact fullerref17_Few.mono _ _)
   | (with_reducible exact LeO.refl _)
   | (with_reducible exact LeO.none _)
   | (with_reducible refine LeO.ite ?_ ?_)
   | (with_reducible refine LeO.bind ?_ (fun _ => ?_))
   | exact ih0 _ _ _ _ _
   | exact ih1 _ _ _ _ _ _ _ _ _ _ _
   | exact ih2 _ _ _ _ _ _ _ _ _ _ _ _ _
   | exact chain_Check.mono _ _
   | exact chain_Read.mono _ _ _
   | exact fullerlaw17_awake.mono _
   | exact fullerref03_Same.mono _ _ _ _ _
   | exact fullerref17_Few.mono _ _
   | exact LeO.none _
   | refine LeO.ite ?_ ?_
   | refine LeO.bind ?_ (fun _ => ?_)
theorem fullerlaw17_ChainCuts.mono : ∀ a0 a1 a2 k, LeO (fullerlaw17_ChainCuts.f k a0 a1 a2) (fullerlaw17_ChainCuts.f (k + 1) a0 a1 a2) := by
 intro a0 a1 a2 k
 obtain ⟨ih0, ih1, ih2⟩ := fullerlaw17_ChainCuts.mono_l k
 unfold fullerlaw17_ChainCuts.f
 repeat' first
   | (with_reducible exact ih0 _ _ _ _ _)
   | (with_reducible exact ih1 _ _ _ _ _ _ _ _ _ _ _)
   | (with_reducible exact ih2 _ _ _ _ _ _ _ _ _ _ _ _ _)
   | (with_reducible exact chain_Check.mono _ _)
   | (with_reducible exact chain_Read.mono _ _ _)
   | (with_reducible exact fullerlaw17_awake.mono _)
   | (with_reducible exact fullerref03_Same.mono _ _ _ _ _)
   | (with_reducible exact fullerref17_Few.mono _ _)
   | (with_reducible exact LeO.refl _)
   | (with_reducible exact LeO.none _)
   | (with_reducible refine LeO.ite ?_ ?_)
   | (with_reducible refine LeO.bind ?_ (fun _ => ?_))
   | exact ih0 _ _ _ _ _
   | exact ih1 _ _ _ _ _ _ _ _ _ _ _
   | exact ih2 _ _ _ _ _ _ _ _ _ _ _ _ _
   | exact chain_Check.mono _ _
   | exact chain_Read.mono _ _ _
   | exact fullerlaw17_awake.mono _
   | exact fullerref03_Same.mono _ _ _ _ _
   | exact fullerref17_Few.mono _ _
   | exact LeO.none _
   | refine LeO.ite ?_ ?_
   | refine LeO.bind ?_ (fun _ => ?_)
def fullerlaw17_ChainCuts.T14 : Bool × List (List Nat × List Nat) := (true, [([], []), ([0], [0]), ([1], [1]), ([2], [2]), ([3, 2], [2, 3]), ([2, 4], [2, 4]), ([5, 2], [5]), ([6], [6]), ([7, 6], [6, 7]), ([8, 6, 6], [6, 8]), ([9], [9]), ([9, 10, 6], [6, 9, 10]), ([11, 9, 6], [6, 11]), ([12], [12]), ([12], [12]), ([12], [12]), ([15, 12], [12, 15]), ([14, 16, 12], [12, 14, 16]), ([17, 12], [12, 17]), ([18, 12], [12, 18]), ([13, 19, 12, 12], [12, 13, 19]), ([12, 20, 6], [6, 12, 20]), ([6, 21], [6, 21]), ([22, 20, 0, 1, 2, 3, 4, 5, 6, 7, 8, 9, 10, 11, 12, 13, 14, 15, 16, 17, 18, 19, 20, 21, 22], [22])])
def fullerlaw17_ChainCuts.B14 : List Nat := [0, 1, 3, 7, 15, 31, 63, 127, 255, 511, 1023, 2047, 4095, 8191, 8191, 8191, 40959, 122879, 253951, 516095, 1048575, 2097151, 4194303, 8388607]
theorem fullerlaw17_ChainCuts.tab14 : rtab .any (opsOf Try.f6 14) = fullerlaw17_ChainCuts.T14 := by kernel_rfl
theorem fullerlaw17_ChainCuts.bits14 : waitsOk fullerlaw17_ChainCuts.T14.2 fullerlaw17_ChainCuts.B14 = true := by kernel_rfl
set_option maxHeartbeats 8000000 in
set_option maxRecDepth 100000 in
theorem fullerlaw17_ChainCuts.calls (k : Nat) (A0 : Option Addr) (c0 : Nat) (l0 : List (S41)) (a1 : Int) (a2 : Int) (r : Bool) (w : World) (hr0 : Kd.C k41 w A0 l0.length l0) (hc0 : l0.length ≤ c0) (h : fullerlaw17_ChainCuts.f k l0 a1 a2 = some r) :
  Calls Try.prog 6 #[.slice A0 l0.length c0, .int .u8 a1, .int .i64 a2] w fun e w' => e = .returned (.bool r) ∧ Below w.heap.size w w' := by
 have hu25 := Try.underlying25
 have HR0 := Aside0.mk hr0
 have HC0 := Aside0.mk hc0
 clear hr0 hc0
 have HB := Aside0.mk (Below.refl w.heap.size w)
 have H : ((fullerlaw17_awake.f k).bind fun t391 => ((fullerref17_Few.f k l0).bind fun t392 => (if t392 = true then ((chain_Check.f k l0).bind fun t393 => (fullerlaw17_ChainCuts.j0 k l0 a1 a2 t391 (!t393))) else (fullerlaw17_ChainCuts.j0 k l0 a1 a2 t391 true)))) = some r := h
 clear h
 replace H := Option.bind_eq_some_iff.mp H
 obtain ⟨t391, A40, H⟩ := H
 replace H : ((fullerref17_Few.f k l0).bind fun t392 => (if t392 = true then ((chain_Check.f k l0).bind fun t393 => (fullerlaw17_ChainCuts.j0 k l0 a1 a2 t391 (!t393))) else (fullerlaw17_ChainCuts.j0 k l0 a1 a2 t391 true))) = some r := H
 have A4 := Aside0.mk A40
 clear A40
 have HC5 := Aside0.mk H
 clear H
 go_enter Try.func6, Try.ntmps6
 go_upto_region 2 with (first | ((with_reducible refine gate_callee (f := 8) rfl ?_); refine goesL_ (some 17) rfl rfl Try.func8 (by kernel_rfl) rfl #[] rfl (by (try simp only [List.map_toArray, List.map_cons, List.map_nil]); first | done | rfl | (simp only [List.length_drop, List.length_take]; rfl)) ?_; (with_reducible refine (fullerlaw17_awake.calls k  t391 _ A4.out).mono ?_); rintro e w6 ⟨rfl, hb⟩; refine ⟨_, rfl, ?_⟩; have n0_ := Aside0.mk (below_step (bq0_ HB.out) hb); clear HB; have HB := n0_; clear n0_; (try clear hb); (try clear hb2); (try clear hk); (try clear hi)))
 (try simp only [Act.put, sA_, sB_, sC_])
 go_cut [25] (fun v25 wc => ∃ (kq : Nat) (x25_4 : Bool), v25 = .bool x25_4 ∧ Aside0 (fullerlaw17_ChainCuts.j0 kq l0 a1 a2 t391 x25_4 = some r) ∧ Aside0 (kq ≤ k) ∧ Aside0 (Below w.heap.size w wc))
 case first =>
  have H := HC5.out
  clear HC5
  replace H := Option.bind_eq_some_iff.mp H
  obtain ⟨t392, A70, H⟩ := H
  replace H : (if t392 = true then ((chain_Check.f k l0).bind fun t393 => (fullerlaw17_ChainCuts.j0 k l0 a1 a2 t391 (!t393))) else (fullerlaw17_ChainCuts.j0 k l0 a1 a2 t391 true)) = some r := H
  have A7 := Aside0.mk A70
  clear A70
  by_cases c8 : t392 = true
  ·subst c8
   have H1 : ((chain_Check.f k l0).bind fun t393 => (fullerlaw17_ChainCuts.j0 k l0 a1 a2 t391 (!t393))) = some r := by rw [if_pos rfl] at H; exact H
   clear H
   have H := H1
   clear H1
   replace H := Option.bind_eq_some_iff.mp H
   obtain ⟨t393, A90, H⟩ := H
   replace H : (fullerlaw17_ChainCuts.j0 k l0 a1 a2 t391 (!t393)) = some r := H
   have A9 := Aside0.mk A90
   clear A90
   have H' := Aside0.mk H
   clear H
   go_wp2_with (first | ((with_reducible refine gate_callee (f := 9) rfl ?_); refine goesL_ (some 19) rfl rfl Try.func9 (by kernel_rfl) rfl #[.slice A0 l0.length c0] rfl (by (try simp only [List.map_toArray, List.map_cons, List.map_nil]); first | done | rfl | (simp only [List.length_drop, List.length_take]; rfl)) ?_; (with_reducible refine (fullerref17_Few.calls k _ _ l0 true _ ?side1 ?side2 A7.out).mono ?_); (case side1 => repeat (first | exact (Kd.C_below HR0.out HB.out) | (with_reducible refine Kd.C_alloc ?_ _) | (with_reducible refine Kd.C_drewN ?_ _) | (with_reducible refine Kd.C_drew ?_))); (case side2 => exact HC0.out); rintro e w10 ⟨rfl, hb⟩; refine ⟨_, rfl, ?_⟩; have n0_ := Aside0.mk (below_step (bq0_ HB.out) hb); clear HB; have HB := n0_; clear n0_; (try clear hb); (try clear hb2); (try clear hk); (try clear hi)) | (go_at_call 17; (with_reducible refine (chain_Check.calls k _ _ l0 t393 _ ?side1 ?side2 A9.out).mono ?_); (case side1 => repeat (first | exact (Kd.C_below HR0.out HB.out) | (with_reducible refine Kd.C_alloc ?_ _) | (with_reducible refine Kd.C_drewN ?_ _) | (with_reducible refine Kd.C_drew ?_))); (case side2 => exact HC0.out); rintro e w11 ⟨rfl, hb⟩; have n0_ := Aside0.mk (below_step (bq0_ HB.out) hb); clear HB; have HB := n0_; clear n0_; (try clear hb); (try clear hb2); (try clear hk); (try clear hi)))
   go_meet
   case rel => exact ⟨_, (!t393), (by first | rfl | (simp; done) | (simp [*]; done)), H', ⟨by first | omega | exact Nat.le_refl _⟩, ⟨by repeat (first | (with_reducible first | exact HB.out | apply below_alloc | apply pw_below_drewN | apply below_drew1) | exact HB.out)⟩⟩
  ·replace c8 := Bool.eq_false_iff.mpr c8
   subst c8
   have H1 : (fullerlaw17_ChainCuts.j0 k l0 a1 a2 t391 true) = some r := by rw [if_neg (show ¬ (false = true) by decide)] at H; exact H
   clear H
   have H := H1
   clear H1
   have H' := Aside0.mk H
   clear H
   go_wp2_with (first | ((with_reducible refine gate_callee (f := 9) rfl ?_); refine goesL_ (some 19) rfl rfl Try.func9 (by kernel_rfl) rfl #[.slice A0 l0.length c0] rfl (by (try simp only [List.map_toArray, List.map_cons, List.map_nil]); first | done | rfl | (simp only [List.length_drop, List.length_take]; rfl)) ?_; (with_reducible refine (fullerref17_Few.calls k _ _ l0 false _ ?side1 ?side2 A7.out).mono ?_); (case side1 => repeat (first | exact (Kd.C_below HR0.out HB.out) | (with_reducible refine Kd.C_alloc ?_ _) | (with_reducible refine Kd.C_drewN ?_ _) | (with_reducible refine Kd.C_drew ?_))); (case side2 => exact HC0.out); rintro e w12 ⟨rfl, hb⟩; refine ⟨_, rfl, ?_⟩; have n0_ := Aside0.mk (below_step (bq0_ HB.out) hb); clear HB; have HB := n0_; clear n0_; (try clear hb); (try clear hb2); (try clear hk); (try clear hi)))
   go_meet
   case rel => exact ⟨_, (true), (by first | rfl | (simp; done) | (simp [*]; done)), H', ⟨by first | omega | exact Nat.le_refl _⟩, ⟨by repeat (first | (with_reducible first | exact HB.out | apply below_alloc | apply pw_below_drewN | apply below_drew1) | exact HB.out)⟩⟩
 case rest =>
  clear HC5
  try clear p2
  try clear c6
  try clear c8
  try clear c9
  obtain ⟨kq, x25_4, rfl, HA, HJ4, HB⟩ := hcut
  cases kq with
  | zero => exact absurd HA.out (by simp [fullerlaw17_ChainCuts.j0])
  | succ kj4 =>
   have H := HA.out
   clear HA
   simp only [fullerlaw17_ChainCuts.j0] at H
   by_cases c13 : x25_4 = true
   ·subst c13
    have H1 : (some t391) = some r := by rw [if_pos rfl] at H; exact H
    clear H
    have H := H1
    clear H1
    obtain rfl := Option.some.inj H
    go_wp2
    go_ret
    exact ⟨by first | rfl | (simp [errW_none, errW_some] <;> rfl) | (simp [*, errW_none, errW_some] <;> rfl), by repeat (first | (with_reducible first | exact HB.out | apply below_alloc | apply pw_below_drewN | apply below_drew1) | exact HB.out)⟩
   ·replace c13 := Bool.eq_false_iff.mpr c13
    subst c13
    have H1 : (if (wrap64 ((l0.length : Int) + 1)) = 0 then (none) else ((chain_Read.f kj4 l0 a2).bind fun bt394 => (if 0 ≤ (Int.tmod (wrap64 (a1)) (wrap64 ((l0.length : Int) + 1))) then (if (Int.tmod (wrap64 (a1)) (wrap64 ((l0.length : Int) + 1))) ≤ (l0.length : Int) then ((chain_Read.f kj4 (l0.take ((Int.tmod (wrap64 (a1)) (wrap64 ((l0.length : Int) + 1))) : Int).toNat) a2).bind fun bt406 => (if (Int.tmod (wrap64 (a1)) (wrap64 ((l0.length : Int) + 1))) = (l0.length : Int) then (fullerlaw17_ChainCuts.j1 kj4 l0 a2 t391 (Int.tmod (wrap64 (a1)) (wrap64 ((l0.length : Int) + 1))) bt394.2.2 bt406.2.2 true bt394.1 bt394.2.1 bt406.1 bt406.2.1) else (if 0 ≤ (mn (Int.tmod (wrap64 (a1)) (wrap64 ((l0.length : Int) + 1))) (mx 0 (wrap64 ((l0.length : Int) - 1)))) then (if (mn (Int.tmod (wrap64 (a1)) (wrap64 ((l0.length : Int) + 1))) (mx 0 (wrap64 ((l0.length : Int) - 1)))) < (l0.length : Int) then (fullerlaw17_ChainCuts.j1 kj4 l0 a2 t391 (Int.tmod (wrap64 (a1)) (wrap64 ((l0.length : Int) + 1))) bt394.2.2 bt406.2.2 (decide (a2 < ((rd_T41 l0 (mn (Int.tmod (wrap64 (a1)) (wrap64 ((l0.length : Int) + 1))) (mx 0 (wrap64 ((l0.length : Int) - 1))))).f0))) bt394.1 bt394.2.1 bt406.1 bt406.2.1) else (none)) else (none)))) else (none)) else (none)))) = some r := by rw [if_neg (show ¬ (false = true) by decide)] at H; exact H
    clear H
    have H := H1
    clear H1
    by_cases c14 : (wrap64 ((l0.length : Int) + 1)) = 0
    ·rw [if_pos c14] at H
     exact absurd H (by simp)
    ·rw [if_neg c14] at H
     have c14b0 : ((wrap64 ((l0.length : Int) + 1)) == 0) = false := beq_eq_false_iff_ne.mpr c14
     have c14b1 : ((wrap64 ((l0.length : Int) + 1)) != 0) = true := bne_iff_ne.mpr c14
     replace H := Option.bind_eq_some_iff.mp H
     obtain ⟨⟨t394, t397, t400⟩, A150, H⟩ := H
     replace H : (if 0 ≤ (Int.tmod (wrap64 (a1)) (wrap64 ((l0.length : Int) + 1))) then (if (Int.tmod (wrap64 (a1)) (wrap64 ((l0.length : Int) + 1))) ≤ (l0.length : Int) then ((chain_Read.f kj4 (l0.take ((Int.tmod (wrap64 (a1)) (wrap64 ((l0.length : Int) + 1))) : Int).toNat) a2).bind fun bt406 => (if (Int.tmod (wrap64 (a1)) (wrap64 ((l0.length : Int) + 1))) = (l0.length : Int) then (fullerlaw17_ChainCuts.j1 kj4 l0 a2 t391 (Int.tmod (wrap64 (a1)) (wrap64 ((l0.length : Int) + 1))) t400 bt406.2.2 true t394 t397 bt406.1 bt406.2.1) else (if 0 ≤ (mn (Int.tmod (wrap64 (a1)) (wrap64 ((l0.length : Int) + 1))) (mx 0 (wrap64 ((l0.length : Int) - 1)))) then (if (mn (Int.tmod (wrap64 (a1)) (wrap64 ((l0.length : Int) + 1))) (mx 0 (wrap64 ((l0.length : Int) - 1)))) < (l0.length : Int) then (fullerlaw17_ChainCuts.j1 kj4 l0 a2 t391 (Int.tmod (wrap64 (a1)) (wrap64 ((l0.length : Int) + 1))) t400 bt406.2.2 (decide (a2 < ((rd_T41 l0 (mn (Int.tmod (wrap64 (a1)) (wrap64 ((l0.length : Int) + 1))) (mx 0 (wrap64 ((l0.length : Int) - 1))))).f0))) t394 t397 bt406.1 bt406.2.1) else (none)) else (none)))) else (none)) else (none)) = some r := H
     have A15 := Aside0.mk A150
     clear A150
     obtain ⟨ji16, hji16⟩ : ∃ j_ : Int, (Int.tmod (wrap64 (a1)) (wrap64 ((l0.length : Int) + 1))) = j_ := ⟨_, rfl⟩
     replace H : (if 0 ≤ (ji16) then (if (ji16) ≤ (l0.length : Int) then ((chain_Read.f kj4 (l0.take ((ji16) : Int).toNat) a2).bind fun bt406 => (if (ji16) = (l0.length : Int) then (fullerlaw17_ChainCuts.j1 kj4 l0 a2 t391 ji16 t400 bt406.2.2 true t394 t397 bt406.1 bt406.2.1) else (if 0 ≤ (mn (ji16) (mx 0 (wrap64 ((l0.length : Int) - 1)))) then (if (mn (ji16) (mx 0 (wrap64 ((l0.length : Int) - 1)))) < (l0.length : Int) then (fullerlaw17_ChainCuts.j1 kj4 l0 a2 t391 ji16 t400 bt406.2.2 (decide (a2 < ((rd_T41 l0 (mn (ji16) (mx 0 (wrap64 ((l0.length : Int) - 1))))).f0))) t394 t397 bt406.1 bt406.2.1) else (none)) else (none)))) else (none)) else (none)) = some r := by first | (rw [hji16] at H; exact H) | (simp only [hji16] at H ⊢; exact H)
     (try rw [hji16] at A15)
     by_cases c17 : 0 ≤ (ji16)
     ·rw [if_pos c17] at H
      have c17b0 := eq_true c17
      have c17b1 : decide (0 ≤ (ji16)) = true := decide_eq_true c17
      clear c17
      by_cases c18 : (ji16) ≤ (l0.length : Int)
      ·rw [if_pos c18] at H
       have c18b0 := eq_true c18
       have c18b1 : decide ((ji16) ≤ (l0.length : Int)) = true := decide_eq_true c18
       clear c18
       obtain ⟨y402, hy402⟩ : ∃ y_ : List (S41), y_ = (l0.take ((ji16) : Int).toNat) := ⟨_, rfl⟩
       replace H : ((chain_Read.f kj4 y402 a2).bind fun bt406 => (if (ji16) = (l0.length : Int) then (fullerlaw17_ChainCuts.j1 kj4 l0 a2 t391 ji16 t400 bt406.2.2 true t394 t397 bt406.1 bt406.2.1) else (if 0 ≤ (mn (ji16) (mx 0 (wrap64 ((l0.length : Int) - 1)))) then (if (mn (ji16) (mx 0 (wrap64 ((l0.length : Int) - 1)))) < (l0.length : Int) then (fullerlaw17_ChainCuts.j1 kj4 l0 a2 t391 ji16 t400 bt406.2.2 (decide (a2 < ((rd_T41 l0 (mn (ji16) (mx 0 (wrap64 ((l0.length : Int) - 1))))).f0))) t394 t397 bt406.1 bt406.2.1) else (none)) else (none)))) = some r := by first | (rw [hy402]; with_reducible exact H) | (have H2_ := (Option.bind_some _ _).symm.trans H; rw [hy402]; with_reducible exact H2_) | (have H2_ := (Option.bind_some _ _).symm.trans H; with_reducible exact H2_) | with_reducible exact H | (rw [hy402]; exact H) | exact H
       have Ny402 := Aside0.mk hy402
       clear hy402
       replace H := Option.bind_eq_some_iff.mp H
       obtain ⟨⟨t406, t409, t412⟩, A190, H⟩ := H
       replace H : (if (ji16) = (l0.length : Int) then (fullerlaw17_ChainCuts.j1 kj4 l0 a2 t391 ji16 t400 t412 true t394 t397 t406 t409) else (if 0 ≤ (mn (ji16) (mx 0 (wrap64 ((l0.length : Int) - 1)))) then (if (mn (ji16) (mx 0 (wrap64 ((l0.length : Int) - 1)))) < (l0.length : Int) then (fullerlaw17_ChainCuts.j1 kj4 l0 a2 t391 ji16 t400 t412 (decide (a2 < ((rd_T41 l0 (mn (ji16) (mx 0 (wrap64 ((l0.length : Int) - 1))))).f0))) t394 t397 t406 t409) else (none)) else (none))) = some r := H
       have A19 := Aside0.mk A190
       clear A190
       have HC20 := Aside0.mk H
       clear H
       go_upto_region 7 with (first | ((with_reducible refine gate_callee (f := 11) rfl ?_); refine goesL_ (some 36) rfl rfl Try.func11 (by kernel_rfl) rfl #[.slice A0 l0.length c0, .int .i64 a2] rfl (by (try simp only [List.map_toArray, List.map_cons, List.map_nil]); first | done | rfl | (simp only [List.length_drop, List.length_take]; rfl)) ?_; (with_reducible refine (chain_Read.calls kj4 _ _ l0 a2 t394 t397 t400 _ ?side1 ?side2 A15.out).mono ?_); (case side1 => repeat (first | exact (Kd.C_below HR0.out HB.out) | (with_reducible refine Kd.C_alloc ?_ _) | (with_reducible refine Kd.C_drewN ?_ _) | (with_reducible refine Kd.C_drew ?_))); (case side2 => exact HC0.out); rintro e w21 ⟨v395, v398, rfl, ho0, ho1, hb⟩; refine ⟨_, rfl, ?_⟩; have n0_ := Aside0.mk (Kd.R_lower ho0 (below_size (bq0_ HB.out))); have n1_ := Aside0.mk (Kd.R_lower ho1 (below_size (bq0_ HB.out))); have n2_ := Aside0.mk (below_step (bq0_ HB.out) hb); clear HB; have HO396 := n0_; have HO399 := n1_; have HB := n2_; clear n0_ n1_ n2_; (try clear hb); (try clear hb2); (try clear hk); (try clear hi); (try clear ho0); (try clear ho1)) | ((with_reducible refine gate_dst (N := 9) rfl ?_); (try (refine gate_guard (by rfl) ?_; dsimp only)); refine box_event ?hg (N := 9) ?hd (cs := #[.slice none 0 0, .slice none 0 0]) (t := 25) ?hr ?_; (case hd => rfl); (case hg => rfl); (case hr => first | (go_simp; done) | (go_simp; rfl)); intro gb401 hg w22 hbox hb; have n0_ := Aside0.mk (Kd.R_below (mvR_ HO396.out) hb); have n1_ := Aside0.mk (Kd.R_below (mvR_ HO399.out) hb); have n2_ := Aside0.mk (below_step (bq0_ HB.out) hb); have n3_ := Aside0.mk (hbox); have n4_ := Aside0.mk ((by rw [hg]; exact (below_size (bq0_ HB.out)) : w.heap.size ≤ gb401)); have n5_ := Aside0.mk ((by rw [hg]; exact (below_size (bq0_ HB.out)) : w.heap.size ≤ gb401)); clear HO396; clear HO399; clear HB; have HO396 := n0_; have HO399 := n1_; have HB := n2_; have BK401 := n3_; have GW401 := n4_; have GE401 := n5_; clear n0_ n1_ n2_ n3_ n4_ n5_; clear hb hbox hg; obtain ⟨Ao23, co23, eo23⟩ := Kd.R_slice HO396.out; subst eo23; have hcz24_0 : w22.cell? ⟨gb401, 0, none⟩ = some (.slice none 0 0) := (blk_cell BK401.out 0).trans rfl; have hcz24_1 : w22.cell? ⟨gb401, 1, none⟩ = some (.slice none 0 0) := (blk_cell BK401.out 1).trans rfl; have hfz24_0 := blk_frozen BK401.out 0; have hfz24_1 := blk_frozen BK401.out 1; obtain ⟨Ao25, co25, eo25⟩ := Kd.R_slice HO399.out; subst eo25) | ((with_reducible refine gate_store (t := 25) (p := 9) rfl ?_); refine store_event (t := 25) (p := 9) (v := ?vo_w26) (w1 := ((w22.setCell ⟨gb401, 0, none⟩ (.slice Ao23 t394.length co23)).setCell ⟨gb401, 1, none⟩ (.slice Ao25 t397.length co25))) ?hg ?ho ?hn ?hr ?_; (case ho => rfl); (case hg => rfl); (case hn => rfl); (case hr => first | (go_simp; done) | (go_simp; rfl)); intro w26 hw; have n0_ : Aside0 (Kd.R (Kd.int .i64) 3 w26 w.heap.size (fun k_ => some k_ ≠ (.slice Ao25 t397.length co25 : Value).ownBlock) (.slice Ao23 t394.length co23) t394) := ⟨(by rw [hw]; exact (by (with_reducible repeat (first | apply Kd.R_alloc | apply Kd.R_drewN | apply Kd.R_drew)); exact Kd.R_mono (Kd.R_far (p := ⟨gb401, 1, none⟩) (Kd.R_far (p := ⟨gb401, 0, none⟩) (Kd.R_types HO396.out BK401.out (by decide)) (fun _ hk => hk.2) (.slice Ao23 t394.length co23)) (fun _ hk => hk.2) (.slice Ao25 t397.length co25)) (fun _ hk => hk.1)))⟩; have n1_ : Aside0 (Kd.R (Kd.int .i64) 3 w26 w.heap.size (fun k_ => some k_ ≠ (.slice Ao23 t394.length co23 : Value).ownBlock) (.slice Ao25 t397.length co25) t397) := ⟨(by rw [hw]; exact (by (with_reducible repeat (first | apply Kd.R_alloc | apply Kd.R_drewN | apply Kd.R_drew)); exact Kd.R_mono (Kd.R_far (p := ⟨gb401, 1, none⟩) (Kd.R_far (p := ⟨gb401, 0, none⟩) (Kd.R_types HO399.out BK401.out (by decide)) (fun _ hk => hk.2) (.slice Ao23 t394.length co23)) (fun _ hk => hk.2) (.slice Ao25 t397.length co25)) (fun _ hk => hk.1)))⟩; have n2_ : Aside0 (w26.heap[gb401]? = some (.cells #[.slice Ao23 t394.length co23, .slice Ao25 t397.length co25] 25 (0, 0))) := ⟨(by rw [hw]; exact (by (with_reducible repeat (first | refine blk_drewN ?_ _ | refine blk_drew ?_ | refine blk_alloc ?_ _)); refine blk_put (cs := #[.slice Ao23 t394.length co23, .slice none 0 0]) ?_ 1 _ rfl; (with_reducible repeat (first | refine blk_drewN ?_ _ | refine blk_drew ?_ | refine blk_alloc ?_ _)); refine blk_put (cs := #[.slice none 0 0, .slice none 0 0]) ?_ 0 _ rfl; (with_reducible repeat (first | refine blk_drewN ?_ _ | refine blk_drew ?_ | refine blk_alloc ?_ _)); exact BK401.out))⟩; have n3_ : Aside0 (Below w.heap.size w w26) := ⟨(by rw [hw]; exact (bq1_ HB.out GE401.out))⟩; clear hw; clear HO396; clear HO399; clear BK401; clear HB; have HO396 := n0_; have HO399 := n1_; have BK401 := n2_; have HB := n3_; clear n0_ n1_ n2_ n3_; have q27 : ((ji16) : Int) ≤ ((l0.length : Int) : Int) := of_decide_eq_true (by first | (with_reducible assumption) | assumption); obtain ⟨i027, hi027, _, hsz27, _⟩ := info_parts info41; have hroom27 : l0.length ≤ c0 := HC0.out; have hC27 : Kd.C k41 _ A0 l0.length l0 := HR0.out; have hcut27 := cut_to (P := Try.prog) 22 41 .i64 Try.underlying22 hi027 A0 l0.length c0 (ji16) (of_decide_eq_true (by first | (with_reducible assumption) | assumption)) q27 hroom27; have hr27 := Kd.C_take (m := ((ji16) : Int).toNat) hC27 (by omega); have hy27 : y402.length = ((ji16) : Int).toNat := (by rw [Ny402.out, List.length_take]; omega); rw [← Ny402.out] at hr27; rw [← hy27] at hcut27; have HR405 := Aside0.mk hr27; have HC405 := Aside0.mk (show y402.length ≤ c0 from by omega); clear hr27 hC27 hroom27 hi027 hsz27; have KY27 := Aside0.mk hy27; clear hy27; replace q27 := eq_true q27) | ((with_reducible refine gate_callee (f := 11) rfl ?_); refine goesL_ (some 44) rfl rfl Try.func11 (by kernel_rfl) rfl #[.slice A0 y402.length c0, .int .i64 a2] rfl (by (try simp only [List.map_toArray, List.map_cons, List.map_nil]); first | done | rfl | (simp only [List.length_drop, List.length_take]; rfl)) ?_; (with_reducible refine (chain_Read.calls kj4 _ _ y402 a2 t406 t409 t412 _ ?side1 ?side2 A19.out).mono ?_); (case side1 => repeat (first | exact (Kd.C_below HR405.out HB.out) | (with_reducible refine Kd.C_alloc ?_ _) | (with_reducible refine Kd.C_drewN ?_ _) | (with_reducible refine Kd.C_drew ?_))); (case side2 => exact HC405.out); rintro e w28 ⟨v407, v410, rfl, ho0, ho1, hb⟩; refine ⟨_, rfl, ?_⟩; have n0_ := Aside0.mk (Kd.R_mono (Kd.R_told (Kd.R_told (Kd.R_old (mvR_ HO396.out) hb) (Kd.R_base ho0)) (Kd.R_base ho1)) (fun _ h_ => h_.1)); have n1_ := Aside0.mk (Kd.R_mono (Kd.R_told (Kd.R_told (Kd.R_old (mvR_ HO399.out) hb) (Kd.R_base ho0)) (Kd.R_base ho1)) (fun _ h_ => h_.1)); have n2_ := Aside0.mk (Kd.R_lower (Kd.R_new' (Kd.R_new' ho0 (Kd.R_lt (mvR_ HO396.out))) (Kd.R_lt (mvR_ HO399.out))) (below_size (bq1_ HB.out GE401.out))); have n3_ := Aside0.mk (Kd.R_lower (Kd.R_new' (Kd.R_new' ho1 (Kd.R_lt (mvR_ HO396.out))) (Kd.R_lt (mvR_ HO399.out))) (below_size (bq1_ HB.out GE401.out))); have n4_ := Aside0.mk (blk_below (g := gb401) (o := .cells #[.slice Ao23 t394.length co23, .slice Ao25 t397.length co25] 25 (0, 0)) (mvK_ BK401.out) hb); have n5_ := Aside0.mk (below_step (bq1_ HB.out GE401.out) hb); clear HO396; clear HO399; clear BK401; clear HB; have HO396 := n0_; have HO399 := n1_; have HO408 := n2_; have HO411 := n3_; have BK401 := n4_; have HB := n5_; clear n0_ n1_ n2_ n3_ n4_ n5_; (try clear hb); (try clear hb2); (try clear hk); (try clear hi); (try clear ho0); (try clear ho1)) | ((with_reducible refine gate_dst (N := 11) rfl ?_); (try (refine gate_guard (by rfl) ?_; dsimp only)); refine box_event ?hg (N := 11) ?hd (cs := #[.slice none 0 0, .slice none 0 0]) (t := 25) ?hr ?_; (case hd => rfl); (case hg => rfl); (case hr => first | (go_simp; done) | (go_simp; rfl)); intro gb413 hg w29 hbox hb; have n0_ := Aside0.mk (Kd.R_below (mvR_ HO396.out) hb); have n1_ := Aside0.mk (Kd.R_below (mvR_ HO399.out) hb); have n2_ := Aside0.mk (Kd.R_below (mvR_ HO408.out) hb); have n3_ := Aside0.mk (Kd.R_below (mvR_ HO411.out) hb); have n4_ := Aside0.mk (blk_below (g := gb401) (o := .cells #[.slice Ao23 t394.length co23, .slice Ao25 t397.length co25] 25 (0, 0)) (mvK_ BK401.out) hb); have n5_ := Aside0.mk (below_step (bq1_ HB.out GE401.out) hb); have n6_ := Aside0.mk (hbox); have n7_ := Aside0.mk ((by rw [hg]; exact (below_size (bq1_ HB.out GE401.out)) : w.heap.size ≤ gb413)); have n8_ := Aside0.mk ((by rw [hg]; exact (below_size (bq1_ HB.out GE401.out)) : w.heap.size ≤ gb413)); have n9_ := Aside0.mk ((by rw [hg]; exact Nat.ne_of_lt (blk_lt (g := gb401) (o := .cells #[.slice Ao23 t394.length co23, .slice Ao25 t397.length co25] 25 (0, 0)) (mvK_ BK401.out)) : gb401 ≠ gb413)); have n10_ := Aside0.mk ((by rw [hg]; exact Nat.ne_of_gt (blk_lt (g := gb401) (o := .cells #[.slice Ao23 t394.length co23, .slice Ao25 t397.length co25] 25 (0, 0)) (mvK_ BK401.out)) : gb413 ≠ gb401)); clear HO396; clear HO399; clear HO408; clear HO411; clear BK401; clear HB; have HO396 := n0_; have HO399 := n1_; have HO408 := n2_; have HO411 := n3_; have BK401 := n4_; have HB := n5_; have BK413 := n6_; have GW413 := n7_; have GE413 := n8_; have NB401_413 := n9_; have NB413_401 := n10_; clear n0_ n1_ n2_ n3_ n4_ n5_ n6_ n7_ n8_ n9_ n10_; clear hb hbox hg; obtain ⟨Ao30, co30, eo30⟩ := Kd.R_slice HO408.out; subst eo30; have hnb31 := NB413_401.out; have hnc31 := NB401_413.out; have hcz32_0 : w29.cell? ⟨gb413, 0, none⟩ = some (.slice none 0 0) := (blk_cell BK413.out 0).trans rfl; have hcz32_1 : w29.cell? ⟨gb413, 1, none⟩ = some (.slice none 0 0) := (blk_cell BK413.out 1).trans rfl; have hfz32_0 := blk_frozen BK413.out 0; have hfz32_1 := blk_frozen BK413.out 1; obtain ⟨Ao33, co33, eo33⟩ := Kd.R_slice HO411.out; subst eo33))
       (try simp only [Act.put, sA_, sB_, sC_])
       go_cut [13] (fun v13 wc => ∃ (kq : Nat) (x13_19 : Bool), v13 = .bool x13_19 ∧ Aside0 (fullerlaw17_ChainCuts.j1 kq l0 a2 t391 ji16 t400 t412 x13_19 t394 t397 t406 t409 = some r) ∧ Aside0 (kq ≤ kj4) ∧ Aside0 (Kd.R (Kd.int .i64) 3 wc w.heap.size (fun k_ => some k_ ≠ ((.slice Ao25 t397.length co25) : Value).ownBlock ∧ some k_ ≠ ((.slice Ao30 t406.length co30) : Value).ownBlock ∧ some k_ ≠ ((.slice Ao33 t409.length co33) : Value).ownBlock) (.slice Ao23 t394.length co23) t394) ∧ Aside0 (Kd.R (Kd.int .i64) 3 wc w.heap.size (fun k_ => some k_ ≠ ((.slice Ao23 t394.length co23) : Value).ownBlock ∧ some k_ ≠ ((.slice Ao30 t406.length co30) : Value).ownBlock ∧ some k_ ≠ ((.slice Ao33 t409.length co33) : Value).ownBlock) (.slice Ao25 t397.length co25) t397) ∧ Aside0 (Kd.R (Kd.int .i64) 3 wc w.heap.size (fun k_ => some k_ ≠ ((.slice Ao23 t394.length co23) : Value).ownBlock ∧ some k_ ≠ ((.slice Ao25 t397.length co25) : Value).ownBlock ∧ some k_ ≠ ((.slice Ao33 t409.length co33) : Value).ownBlock) (.slice Ao30 t406.length co30) t406) ∧ Aside0 (Kd.R (Kd.int .i64) 3 wc w.heap.size (fun k_ => some k_ ≠ ((.slice Ao23 t394.length co23) : Value).ownBlock ∧ some k_ ≠ ((.slice Ao25 t397.length co25) : Value).ownBlock ∧ some k_ ≠ ((.slice Ao30 t406.length co30) : Value).ownBlock) (.slice Ao33 t409.length co33) t409) ∧ Aside0 (wc.heap[gb401]? = some (.cells #[(.slice Ao23 t394.length co23), (.slice Ao25 t397.length co25)] 25 (0, 0))) ∧ Aside0 (wc.heap[gb413]? = some (.cells #[(.slice Ao30 t406.length co30), (.slice Ao33 t409.length co33)] 25 (0, 0))) ∧ Aside0 (Below w.heap.size w wc))
       case first =>
        have H := HC20.out
        clear HC20
        by_cases c34 : (ji16) = (l0.length : Int)
        ·rw [if_pos c34] at H
         have c34b0 : ((ji16) == (l0.length : Int)) = true := beq_iff_eq.mpr c34
         have c34b1 : ((ji16) != (l0.length : Int)) = false := bne_eq_false_iff_eq.mpr c34
         clear c34
         (first | rw [c34b0] | (simp only [i64_w, i32_w]; rw [c34b0]) | skip)
         have H' := Aside0.mk H
         clear H
         go_wp2
         go_meet
         case rel => exact ⟨_, (true), (by first | rfl | (simp; done) | (simp [*]; done)), H', ⟨by have := HJ4.out; first | omega | exact Nat.le_refl _⟩, ⟨by (with_reducible repeat (first | apply Kd.R_alloc | apply Kd.R_drewN | apply Kd.R_drew)); exact Kd.R_mono (Kd.R_far (p := ⟨gb413, 1, none⟩) (Kd.R_far (p := ⟨gb413, 0, none⟩) (Kd.R_types HO396.out BK413.out (by decide)) (fun _ hk => hk.2) (.slice Ao30 t406.length co30)) (fun _ hk => hk.2) (.slice Ao33 t409.length co33)) (fun _ hk => ⟨hk.1.1.1, ⟨hk.1.1.2, hk.1.2⟩⟩)⟩, ⟨by (with_reducible repeat (first | apply Kd.R_alloc | apply Kd.R_drewN | apply Kd.R_drew)); exact Kd.R_mono (Kd.R_far (p := ⟨gb413, 1, none⟩) (Kd.R_far (p := ⟨gb413, 0, none⟩) (Kd.R_types HO399.out BK413.out (by decide)) (fun _ hk => hk.2) (.slice Ao30 t406.length co30)) (fun _ hk => hk.2) (.slice Ao33 t409.length co33)) (fun _ hk => ⟨hk.1.1.1, ⟨hk.1.1.2, hk.1.2⟩⟩)⟩, ⟨by (with_reducible repeat (first | apply Kd.R_alloc | apply Kd.R_drewN | apply Kd.R_drew)); exact Kd.R_mono (Kd.R_far (p := ⟨gb413, 1, none⟩) (Kd.R_far (p := ⟨gb413, 0, none⟩) (Kd.R_types HO408.out BK413.out (by decide)) (fun _ hk => hk.2) (.slice Ao30 t406.length co30)) (fun _ hk => hk.2) (.slice Ao33 t409.length co33)) (fun _ hk => ⟨hk.1.1.2, ⟨hk.1.2, hk.1.1.1⟩⟩)⟩, ⟨by (with_reducible repeat (first | apply Kd.R_alloc | apply Kd.R_drewN | apply Kd.R_drew)); exact Kd.R_mono (Kd.R_far (p := ⟨gb413, 1, none⟩) (Kd.R_far (p := ⟨gb413, 0, none⟩) (Kd.R_types HO411.out BK413.out (by decide)) (fun _ hk => hk.2) (.slice Ao30 t406.length co30)) (fun _ hk => hk.2) (.slice Ao33 t409.length co33)) (fun _ hk => ⟨hk.1.1.2, ⟨hk.1.2, hk.1.1.1⟩⟩)⟩, ⟨by (with_reducible repeat (first | refine blk_drewN ?_ _ | refine blk_drew ?_ | refine blk_alloc ?_ _)); refine blk_far ?_ NB401_413.out _; (with_reducible repeat (first | refine blk_drewN ?_ _ | refine blk_drew ?_ | refine blk_alloc ?_ _)); refine blk_far ?_ NB401_413.out _; (with_reducible repeat (first | refine blk_drewN ?_ _ | refine blk_drew ?_ | refine blk_alloc ?_ _)); exact BK401.out⟩, ⟨by (with_reducible repeat (first | refine blk_drewN ?_ _ | refine blk_drew ?_ | refine blk_alloc ?_ _)); refine blk_put (cs := #[.slice Ao30 t406.length co30, .slice none 0 0]) ?_ 1 _ rfl; (with_reducible repeat (first | refine blk_drewN ?_ _ | refine blk_drew ?_ | refine blk_alloc ?_ _)); refine blk_put (cs := #[.slice none 0 0, .slice none 0 0]) ?_ 0 _ rfl; (with_reducible repeat (first | refine blk_drewN ?_ _ | refine blk_drew ?_ | refine blk_alloc ?_ _)); exact BK413.out⟩, ⟨by repeat (first | (with_reducible first | exact HB.out | apply below_alloc | apply pw_below_drewN | apply below_drew1 | refine below_set ?_ GE401.out | refine below_set ?_ GE413.out) | exact HB.out)⟩⟩
        ·rw [if_neg c34] at H
         have c34b0 : ((ji16) == (l0.length : Int)) = false := beq_eq_false_iff_ne.mpr c34
         have c34b1 : ((ji16) != (l0.length : Int)) = true := bne_iff_ne.mpr c34
         (first | rw [c34b0] | (simp only [i64_w, i32_w]; rw [c34b0]) | skip)
         obtain ⟨ji35, hji35⟩ : ∃ j_ : Int, (mx 0 (wrap64 ((l0.length : Int) - 1))) = j_ := ⟨_, rfl⟩
         replace H : (if 0 ≤ (mn (ji16) (ji35)) then (if (mn (ji16) (ji35)) < (l0.length : Int) then (fullerlaw17_ChainCuts.j1 kj4 l0 a2 t391 ji16 t400 t412 (decide (a2 < ((rd_T41 l0 (mn (ji16) (ji35))).f0))) t394 t397 t406 t409) else (none)) else (none)) = some r := by first | (rw [hji35] at H; exact H) | (simp only [hji35] at H ⊢; exact H)
         have hji35_ : (if 0 < (wrap64 ((l0.length : Int) - 1)) then (wrap64 ((l0.length : Int) - 1)) else 0) = ji35 := hji35
         obtain ⟨ji36, hji36⟩ : ∃ j_ : Int, (mn (ji16) (ji35)) = j_ := ⟨_, rfl⟩
         replace H : (if 0 ≤ (ji36) then (if (ji36) < (l0.length : Int) then (fullerlaw17_ChainCuts.j1 kj4 l0 a2 t391 ji16 t400 t412 (decide (a2 < ((rd_T41 l0 (ji36)).f0))) t394 t397 t406 t409) else (none)) else (none)) = some r := by first | (rw [hji36] at H; exact H) | (simp only [hji36] at H ⊢; exact H)
         have hji36_ : (if (ji35) < (ji16) then (ji35) else (ji16)) = ji36 := hji36
         by_cases c37 : 0 ≤ (ji36)
         ·rw [if_pos c37] at H
          have c37b0 : decide (0 ≤ (ji36)) = true := decide_eq_true c37
          clear c37
          by_cases c38 : (ji36) < (l0.length : Int)
          ·rw [if_pos c38] at H
           have c38b0 : decide ((ji36) < (l0.length : Int)) = true := decide_eq_true c38
           clear c38
           have H' := Aside0.mk H
           clear H
           have p414 : 0 ≤ ((ji36) : Int) := of_decide_eq_true (by first | (with_reducible assumption) | assumption)
           have q414 : (ji36) < (l0.length : Int) := of_decide_eq_true (by first | (with_reducible assumption) | assumption)
           obtain ⟨ad414, A414_1, c414_1, A414_2, c414_2, e414, hx414_0, hx414_1, hx414_2, hl414_1, hi414_1, hl414_2, hi414_2⟩ := at_T41 HR0.out (ji36) p414 q414
           cases e414
           have hn414_0 : ad414.block ≠ gb413 := Nat.ne_of_lt (Nat.lt_of_lt_of_le (by have := World.block_lt_of_cell? _ _ hx414_0; first | rwa [add_block] at this | exact this) GW413.out)
           have hn414_1 : ad414.block ≠ gb413 := Nat.ne_of_lt (Nat.lt_of_lt_of_le (by have := World.block_lt_of_cell? _ _ hx414_0; first | rwa [add_block] at this | exact this) GW413.out)
           replace hx414_0 := (HB.out.cell (World.block_lt_of_cell? w _ hx414_0)).trans hx414_0
           replace hx414_1 := (HB.out.cell (World.block_lt_of_cell? w _ hx414_1)).trans hx414_1
           replace hx414_2 := (HB.out.cell (World.block_lt_of_cell? w _ hx414_2)).trans hx414_2
           have HR414_1 := Aside0.mk hi414_1
           have HC414_1 := Aside0.mk hl414_1
           clear hi414_1 hl414_1
           have HR414_2 := Aside0.mk hi414_2
           have HC414_2 := Aside0.mk hl414_2
           clear hi414_2 hl414_2
           replace hx414_0 := (cell_far (p := ⟨gb413, 0, none⟩) (by first | (rw [add_block]; exact hn414_0) | (show (Addr.add _ _).block ≠ _; rw [add_block]; exact hn414_0) | exact hn414_0) (.slice Ao30 t406.length co30)).trans hx414_0
           replace hx414_1 := (cell_far (p := ⟨gb413, 0, none⟩) (by first | (rw [add_block]; exact hn414_0) | (show (Addr.add _ _).block ≠ _; rw [add_block]; exact hn414_0) | exact hn414_0) (.slice Ao30 t406.length co30)).trans hx414_1
           replace hx414_2 := (cell_far (p := ⟨gb413, 0, none⟩) (by first | (rw [add_block]; exact hn414_0) | (show (Addr.add _ _).block ≠ _; rw [add_block]; exact hn414_0) | exact hn414_0) (.slice Ao30 t406.length co30)).trans hx414_2
           replace hx414_0 := (cell_far (p := ⟨gb413, 1, none⟩) (by first | (rw [add_block]; exact hn414_1) | (show (Addr.add _ _).block ≠ _; rw [add_block]; exact hn414_1) | exact hn414_1) (.slice Ao33 t409.length co33)).trans hx414_0
           replace hx414_1 := (cell_far (p := ⟨gb413, 1, none⟩) (by first | (rw [add_block]; exact hn414_1) | (show (Addr.add _ _).block ≠ _; rw [add_block]; exact hn414_1) | exact hn414_1) (.slice Ao33 t409.length co33)).trans hx414_1
           replace hx414_2 := (cell_far (p := ⟨gb413, 1, none⟩) (by first | (rw [add_block]; exact hn414_1) | (show (Addr.add _ _).block ≠ _; rw [add_block]; exact hn414_1) | exact hn414_1) (.slice Ao33 t409.length co33)).trans hx414_2
           clear hn414_0 hn414_1
           replace p414 := eq_true p414
           replace q414 := eq_true q414
           go_wp2
           go_meet
           case rel => exact ⟨_, (decide (a2 < ((rd_T41 l0 (ji36)).f0))), (by first | rfl | (simp; done) | (simp only [← hji36] <;> (first | rfl | simp)) | (simp [*]; done)), H', ⟨by have := HJ4.out; first | omega | exact Nat.le_refl _⟩, ⟨by (with_reducible repeat (first | apply Kd.R_alloc | apply Kd.R_drewN | apply Kd.R_drew)); exact Kd.R_mono (Kd.R_far (p := ⟨gb413, 1, none⟩) (Kd.R_far (p := ⟨gb413, 0, none⟩) (Kd.R_types HO396.out BK413.out (by decide)) (fun _ hk => hk.2) (.slice Ao30 t406.length co30)) (fun _ hk => hk.2) (.slice Ao33 t409.length co33)) (fun _ hk => ⟨hk.1.1.1, ⟨hk.1.1.2, hk.1.2⟩⟩)⟩, ⟨by (with_reducible repeat (first | apply Kd.R_alloc | apply Kd.R_drewN | apply Kd.R_drew)); exact Kd.R_mono (Kd.R_far (p := ⟨gb413, 1, none⟩) (Kd.R_far (p := ⟨gb413, 0, none⟩) (Kd.R_types HO399.out BK413.out (by decide)) (fun _ hk => hk.2) (.slice Ao30 t406.length co30)) (fun _ hk => hk.2) (.slice Ao33 t409.length co33)) (fun _ hk => ⟨hk.1.1.1, ⟨hk.1.1.2, hk.1.2⟩⟩)⟩, ⟨by (with_reducible repeat (first | apply Kd.R_alloc | apply Kd.R_drewN | apply Kd.R_drew)); exact Kd.R_mono (Kd.R_far (p := ⟨gb413, 1, none⟩) (Kd.R_far (p := ⟨gb413, 0, none⟩) (Kd.R_types HO408.out BK413.out (by decide)) (fun _ hk => hk.2) (.slice Ao30 t406.length co30)) (fun _ hk => hk.2) (.slice Ao33 t409.length co33)) (fun _ hk => ⟨hk.1.1.2, ⟨hk.1.2, hk.1.1.1⟩⟩)⟩, ⟨by (with_reducible repeat (first | apply Kd.R_alloc | apply Kd.R_drewN | apply Kd.R_drew)); exact Kd.R_mono (Kd.R_far (p := ⟨gb413, 1, none⟩) (Kd.R_far (p := ⟨gb413, 0, none⟩) (Kd.R_types HO411.out BK413.out (by decide)) (fun _ hk => hk.2) (.slice Ao30 t406.length co30)) (fun _ hk => hk.2) (.slice Ao33 t409.length co33)) (fun _ hk => ⟨hk.1.1.2, ⟨hk.1.2, hk.1.1.1⟩⟩)⟩, ⟨by (with_reducible repeat (first | refine blk_drewN ?_ _ | refine blk_drew ?_ | refine blk_alloc ?_ _)); refine blk_far ?_ NB401_413.out _; (with_reducible repeat (first | refine blk_drewN ?_ _ | refine blk_drew ?_ | refine blk_alloc ?_ _)); refine blk_far ?_ NB401_413.out _; (with_reducible repeat (first | refine blk_drewN ?_ _ | refine blk_drew ?_ | refine blk_alloc ?_ _)); exact BK401.out⟩, ⟨by (with_reducible repeat (first | refine blk_drewN ?_ _ | refine blk_drew ?_ | refine blk_alloc ?_ _)); refine blk_put (cs := #[.slice Ao30 t406.length co30, .slice none 0 0]) ?_ 1 _ rfl; (with_reducible repeat (first | refine blk_drewN ?_ _ | refine blk_drew ?_ | refine blk_alloc ?_ _)); refine blk_put (cs := #[.slice none 0 0, .slice none 0 0]) ?_ 0 _ rfl; (with_reducible repeat (first | refine blk_drewN ?_ _ | refine blk_drew ?_ | refine blk_alloc ?_ _)); exact BK413.out⟩, ⟨by repeat (first | (with_reducible first | exact HB.out | apply below_alloc | apply pw_below_drewN | apply below_drew1 | refine below_set ?_ GE401.out | refine below_set ?_ GE413.out) | exact HB.out)⟩⟩
          ·rw [if_neg c38] at H
           exact absurd H (by simp)
         ·rw [if_neg c37] at H
          exact absurd H (by simp)
       case rest =>
        clear HC20
        try clear c1
        try clear p2
        try clear q2
        try clear c3
        try clear c4
        try clear p4
        try clear q4
        try clear hx4
        try clear c6
        try clear p6
        try clear c8
        try clear c9
        try clear c11
        try clear c13
        try clear c14
        try clear c14b0
        try clear c14b1
        try clear c17
        try clear c17b0
        try clear c17b1
        try clear c18
        try clear c18b0
        try clear c18b1
        try clear q27
        try clear c31
        try clear c34
        try clear c34b0
        try clear c34b1
        try clear c37
        try clear c37b0
        try clear c38
        try clear c38b0
        try clear hcz24_0
        try clear hcz24_1
        try clear hcz32_0
        try clear hcz32_1
        try clear hfz24_0
        try clear hfz24_1
        try clear hfz32_0
        try clear hfz32_1
        try clear hx414_0
        try clear hx414_1
        try clear hx414_2
        try clear p2
        try clear p414
        try clear q27
        try clear q414
        obtain ⟨kq, x13_19, rfl, HA, HJ19, HO_402000, HO_402001, HO_414000, HO_414001, BK401, BK413, HB⟩ := hcut
        cases kq with
        | zero => exact absurd HA.out (by simp [fullerlaw17_ChainCuts.j1])
        | succ kj19 =>
         have H := HA.out
         clear HA
         simp only [fullerlaw17_ChainCuts.j1] at H
         have H' := Aside0.mk H
         clear H
         go_wp2
         go_loopg [14, 15] kj19 (fun kq v14 v15 w' => ∃ (x14_3 : Int) (x15_3 : Int), v14 = .int .i64 x14_3 ∧ v15 = .int .i64 x15_3 ∧ Aside0 (fullerlaw17_ChainCuts.l0 kq l0 a2 t391 ji16 t400 t412 x13_19 x14_3 x15_3 t394 t397 t406 t409 = some r) ∧ Aside0 (kq ≤ kj19) ∧ Aside0 (Kd.R (Kd.int .i64) 3 w' w.heap.size (fun k_ => some k_ ≠ ((.slice Ao25 t397.length co25) : Value).ownBlock ∧ some k_ ≠ ((.slice Ao30 t406.length co30) : Value).ownBlock ∧ some k_ ≠ ((.slice Ao33 t409.length co33) : Value).ownBlock) (.slice Ao23 t394.length co23) t394) ∧ Aside0 (Kd.R (Kd.int .i64) 3 w' w.heap.size (fun k_ => some k_ ≠ ((.slice Ao23 t394.length co23) : Value).ownBlock ∧ some k_ ≠ ((.slice Ao30 t406.length co30) : Value).ownBlock ∧ some k_ ≠ ((.slice Ao33 t409.length co33) : Value).ownBlock) (.slice Ao25 t397.length co25) t397) ∧ Aside0 (Kd.R (Kd.int .i64) 3 w' w.heap.size (fun k_ => some k_ ≠ ((.slice Ao23 t394.length co23) : Value).ownBlock ∧ some k_ ≠ ((.slice Ao25 t397.length co25) : Value).ownBlock ∧ some k_ ≠ ((.slice Ao33 t409.length co33) : Value).ownBlock) (.slice Ao30 t406.length co30) t406) ∧ Aside0 (Kd.R (Kd.int .i64) 3 w' w.heap.size (fun k_ => some k_ ≠ ((.slice Ao23 t394.length co23) : Value).ownBlock ∧ some k_ ≠ ((.slice Ao25 t397.length co25) : Value).ownBlock ∧ some k_ ≠ ((.slice Ao30 t406.length co30) : Value).ownBlock) (.slice Ao33 t409.length co33) t409) ∧ Aside0 (w'.heap[gb401]? = some (.cells #[(.slice Ao23 t394.length co23), (.slice Ao25 t397.length co25)] 25 (0, 0))) ∧ Aside0 (w'.heap[gb413]? = some (.cells #[(.slice Ao30 t406.length co30), (.slice Ao33 t409.length co33)] 25 (0, 0))) ∧ Aside0 (Below w.heap.size w w'))
         case atStart => exact ⟨((-1)), (0), (by first | rfl | (simp; done) | (simp [*]; done)), (by first | rfl | (simp; done) | (simp [*]; done)), H', ⟨Nat.le_refl _⟩, ⟨by (with_reducible repeat (first | apply Kd.R_alloc | apply Kd.R_drewN | apply Kd.R_drew)); exact HO_402000.out⟩, ⟨by (with_reducible repeat (first | apply Kd.R_alloc | apply Kd.R_drewN | apply Kd.R_drew)); exact HO_402001.out⟩, ⟨by (with_reducible repeat (first | apply Kd.R_alloc | apply Kd.R_drewN | apply Kd.R_drew)); exact HO_414000.out⟩, ⟨by (with_reducible repeat (first | apply Kd.R_alloc | apply Kd.R_drewN | apply Kd.R_drew)); exact HO_414001.out⟩, ⟨by (with_reducible repeat (first | refine blk_drewN ?_ _ | refine blk_drew ?_ | refine blk_alloc ?_ _)); exact BK401.out⟩, ⟨by (with_reducible repeat (first | refine blk_drewN ?_ _ | refine blk_drew ?_ | refine blk_alloc ?_ _)); exact BK413.out⟩, ⟨by repeat (first | (with_reducible first | exact HB.out | apply below_alloc | apply pw_below_drewN | apply below_drew1 | refine below_set ?_ GE401.out | refine below_set ?_ GE413.out) | exact HB.out)⟩⟩
         case round =>
          clear H'
          try clear c1
          try clear p2
          try clear q2
          try clear c3
          try clear c4
          try clear p4
          try clear q4
          try clear hx4
          try clear c6
          try clear p6
          try clear c8
          try clear c9
          try clear c11
          try clear c13
          try clear c14
          try clear c14b0
          try clear c14b1
          try clear c17
          try clear c17b0
          try clear c17b1
          try clear c18
          try clear c18b0
          try clear c18b1
          try clear q27
          try clear c31
          try clear c34
          try clear c34b0
          try clear c34b1
          try clear c37
          try clear c37b0
          try clear c38
          try clear c38b0
          try clear hcz24_0
          try clear hcz24_1
          try clear hcz32_0
          try clear hcz32_1
          try clear hfz24_0
          try clear hfz24_1
          try clear hfz32_0
          try clear hfz32_1
          try clear hx414_0
          try clear hx414_1
          try clear hx414_2
          try clear p2
          try clear p4
          try clear p414
          try clear p6
          try clear q2
          try clear q27
          try clear q4
          try clear q414
          obtain ⟨x14_3, x15_3, rfl, rfl, HA, HK3, HO_402000, HO_402001, HO_414000, HO_414001, BK401, BK413, HB⟩ := hrel
          cases gk with
          | zero => exact absurd HA.out (by simp [fullerlaw17_ChainCuts.l0])
          | succ k3 =>
           have H := HA.out
           clear HA
           simp only [fullerlaw17_ChainCuts.l0] at H
           by_cases c39 : x15_3 < (l0.length : Int)
           ·rw [if_pos c39] at H
            have c39b0 : decide (x15_3 < (l0.length : Int)) = true := decide_eq_true c39
            clear c39
            by_cases c40 : 0 ≤ x15_3
            ·rw [if_pos c40] at H
             have c40b0 : decide (0 ≤ x15_3) = true := decide_eq_true c40
             clear c40
             by_cases c41 : ((rd_T41 l0 x15_3).f0) ≤ a2
             ·rw [if_pos c41] at H
              have c41b0 : decide (((rd_T41 l0 x15_3).f0) ≤ a2) = true := decide_eq_true c41
              clear c41
              have H' := Aside0.mk H
              clear H
              have p415 : 0 ≤ (x15_3 : Int) := of_decide_eq_true (by first | (with_reducible assumption) | assumption)
              have q415 : x15_3 < (l0.length : Int) := of_decide_eq_true (by first | (with_reducible assumption) | assumption)
              obtain ⟨ad415, A415_1, c415_1, A415_2, c415_2, e415, hx415_0, hx415_1, hx415_2, hl415_1, hi415_1, hl415_2, hi415_2⟩ := at_T41 HR0.out x15_3 p415 q415
              cases e415
              replace hx415_0 := (HB.out.cell (World.block_lt_of_cell? w _ hx415_0)).trans hx415_0
              replace hx415_1 := (HB.out.cell (World.block_lt_of_cell? w _ hx415_1)).trans hx415_1
              replace hx415_2 := (HB.out.cell (World.block_lt_of_cell? w _ hx415_2)).trans hx415_2
              have HR415_1 := Aside0.mk hi415_1
              have HC415_1 := Aside0.mk hl415_1
              clear hi415_1 hl415_1
              have HR415_2 := Aside0.mk hi415_2
              have HC415_2 := Aside0.mk hl415_2
              clear hi415_2 hl415_2
              replace p415 := eq_true p415
              replace q415 := eq_true q415
              go_wp2
              go_roundg k3
              case measure => have := HJ4.out; have := HJ19.out; have := HK3.out; omega
              case rel => exact ⟨(x15_3), (wrap64 (x15_3 + 1)), (by first | rfl | (simp; done) | (simp [*]; done)), (by first | rfl | (simp; done) | (simp [*]; done)), H', ⟨by have := HJ4.out; have := HJ19.out; have := HK3.out; omega⟩, ⟨by (with_reducible repeat (first | apply Kd.R_alloc | apply Kd.R_drewN | apply Kd.R_drew)); exact HO_402000.out⟩, ⟨by (with_reducible repeat (first | apply Kd.R_alloc | apply Kd.R_drewN | apply Kd.R_drew)); exact HO_402001.out⟩, ⟨by (with_reducible repeat (first | apply Kd.R_alloc | apply Kd.R_drewN | apply Kd.R_drew)); exact HO_414000.out⟩, ⟨by (with_reducible repeat (first | apply Kd.R_alloc | apply Kd.R_drewN | apply Kd.R_drew)); exact HO_414001.out⟩, ⟨by (with_reducible repeat (first | refine blk_drewN ?_ _ | refine blk_drew ?_ | refine blk_alloc ?_ _)); exact BK401.out⟩, ⟨by (with_reducible repeat (first | refine blk_drewN ?_ _ | refine blk_drew ?_ | refine blk_alloc ?_ _)); exact BK413.out⟩, ⟨by repeat (first | (with_reducible first | exact HB.out | apply below_alloc | apply pw_below_drewN | apply below_drew1 | refine below_set ?_ GE401.out | refine below_set ?_ GE413.out) | exact HB.out)⟩⟩
             ·rw [if_neg c41] at H
              have c41b0 : decide (((rd_T41 l0 x15_3).f0) ≤ a2) = false := decide_eq_false c41
              clear c41
              have H' := Aside0.mk H
              clear H
              have p415 : 0 ≤ (x15_3 : Int) := of_decide_eq_true (by first | (with_reducible assumption) | assumption)
              have q415 : x15_3 < (l0.length : Int) := of_decide_eq_true (by first | (with_reducible assumption) | assumption)
              obtain ⟨ad415, A415_1, c415_1, A415_2, c415_2, e415, hx415_0, hx415_1, hx415_2, hl415_1, hi415_1, hl415_2, hi415_2⟩ := at_T41 HR0.out x15_3 p415 q415
              cases e415
              replace hx415_0 := (HB.out.cell (World.block_lt_of_cell? w _ hx415_0)).trans hx415_0
              replace hx415_1 := (HB.out.cell (World.block_lt_of_cell? w _ hx415_1)).trans hx415_1
              replace hx415_2 := (HB.out.cell (World.block_lt_of_cell? w _ hx415_2)).trans hx415_2
              have HR415_1 := Aside0.mk hi415_1
              have HC415_1 := Aside0.mk hl415_1
              clear hi415_1 hl415_1
              have HR415_2 := Aside0.mk hi415_2
              have HC415_2 := Aside0.mk hl415_2
              clear hi415_2 hl415_2
              replace p415 := eq_true p415
              replace q415 := eq_true q415
              go_wp2
              go_roundg k3
              case measure => have := HJ4.out; have := HJ19.out; have := HK3.out; omega
              case rel => exact ⟨(x14_3), (wrap64 (x15_3 + 1)), (by first | rfl | (simp; done) | (simp [*]; done)), (by first | rfl | (simp; done) | (simp [*]; done)), H', ⟨by have := HJ4.out; have := HJ19.out; have := HK3.out; omega⟩, ⟨by (with_reducible repeat (first | apply Kd.R_alloc | apply Kd.R_drewN | apply Kd.R_drew)); exact HO_402000.out⟩, ⟨by (with_reducible repeat (first | apply Kd.R_alloc | apply Kd.R_drewN | apply Kd.R_drew)); exact HO_402001.out⟩, ⟨by (with_reducible repeat (first | apply Kd.R_alloc | apply Kd.R_drewN | apply Kd.R_drew)); exact HO_414000.out⟩, ⟨by (with_reducible repeat (first | apply Kd.R_alloc | apply Kd.R_drewN | apply Kd.R_drew)); exact HO_414001.out⟩, ⟨by (with_reducible repeat (first | refine blk_drewN ?_ _ | refine blk_drew ?_ | refine blk_alloc ?_ _)); exact BK401.out⟩, ⟨by (with_reducible repeat (first | refine blk_drewN ?_ _ | refine blk_drew ?_ | refine blk_alloc ?_ _)); exact BK413.out⟩, ⟨by repeat (first | (with_reducible first | exact HB.out | apply below_alloc | apply pw_below_drewN | apply below_drew1 | refine below_set ?_ GE401.out | refine below_set ?_ GE413.out) | exact HB.out)⟩⟩
            ·rw [if_neg c40] at H
             exact absurd H (by simp)
           ·rw [if_neg c39] at H
            have c39b0 : decide (x15_3 < (l0.length : Int)) = false := decide_eq_false c39
            clear c39
            by_cases c42 : x14_3 < 0
            ·rw [if_pos c42] at H
             have c42b0 : decide (x14_3 < 0) = true := decide_eq_true c42
             clear c42
             by_cases c43 : t400 = true
             ·subst c43
              have H1 : (if x14_3 ≥ 0 then (if 0 ≤ (mx 0 x14_3) then (if (mx 0 x14_3) < (l0.length : Int) then ((fullerref03_Same.f k3 t394 t397 ((rd_T41 l0 (mx 0 x14_3)).f1.f0) ((rd_T41 l0 (mx 0 x14_3)).f1.f1)).bind fun t417 => (if t391 = true then (if 0 ≤ ji16 then (if ji16 ≤ (l0.length : Int) then ((chain_Check.f k3 (l0.take (ji16 : Int).toNat)).bind fun t422 => (if t422 = true then (if t417 = true then (if x13_19 = true then (if (true == t412) = true then ((fullerref03_Same.f k3 t394 t397 t406 t409).bind fun t423 => (some t423)) else (none)) else (some true)) else (none)) else (none))) else (none)) else (none)) else (none))) else (none)) else (none)) else (none)) = some r := by rw [if_pos rfl] at H; exact H
              clear H
              have H := H1
              clear H1
              by_cases c44 : x14_3 ≥ 0
              ·rw [if_pos c44] at H
               have c44b0 : decide (0 ≤ x14_3) = true := decide_eq_true c44
               clear c44
               obtain ⟨ji45, hji45⟩ : ∃ j_ : Int, (mx 0 x14_3) = j_ := ⟨_, rfl⟩
               replace H : (if 0 ≤ (ji45) then (if (ji45) < (l0.length : Int) then ((fullerref03_Same.f k3 t394 t397 ((rd_T41 l0 (ji45)).f1.f0) ((rd_T41 l0 (ji45)).f1.f1)).bind fun t417 => (if t391 = true then (if 0 ≤ ji16 then (if ji16 ≤ (l0.length : Int) then ((chain_Check.f k3 (l0.take (ji16 : Int).toNat)).bind fun t422 => (if t422 = true then (if t417 = true then (if x13_19 = true then (if (true == t412) = true then ((fullerref03_Same.f k3 t394 t397 t406 t409).bind fun t423 => (some t423)) else (none)) else (some true)) else (none)) else (none))) else (none)) else (none)) else (none))) else (none)) else (none)) = some r := by first | (rw [hji45] at H; exact H) | (simp only [hji45] at H ⊢; exact H)
               have hji45_ : (if 0 < x14_3 then x14_3 else 0) = ji45 := hji45
               by_cases c46 : 0 ≤ (ji45)
               ·rw [if_pos c46] at H
                have c46b0 : decide (0 ≤ (ji45)) = true := decide_eq_true c46
                clear c46
                by_cases c47 : (ji45) < (l0.length : Int)
                ·rw [if_pos c47] at H
                 have c47b0 : decide ((ji45) < (l0.length : Int)) = true := decide_eq_true c47
                 clear c47
                 replace H := Option.bind_eq_some_iff.mp H
                 obtain ⟨t417, A480, H⟩ := H
                 replace H : (if t391 = true then (if 0 ≤ ji16 then (if ji16 ≤ (l0.length : Int) then ((chain_Check.f k3 (l0.take (ji16 : Int).toNat)).bind fun t422 => (if t422 = true then (if t417 = true then (if x13_19 = true then (if (true == t412) = true then ((fullerref03_Same.f k3 t394 t397 t406 t409).bind fun t423 => (some t423)) else (none)) else (some true)) else (none)) else (none))) else (none)) else (none)) else (none)) = some r := H
                 have A48 := Aside0.mk A480
                 clear A480
                 by_cases c49 : t391 = true
                 ·subst c49
                  have H1 : (if 0 ≤ ji16 then (if ji16 ≤ (l0.length : Int) then ((chain_Check.f k3 (l0.take (ji16 : Int).toNat)).bind fun t422 => (if t422 = true then (if t417 = true then (if x13_19 = true then (if (true == t412) = true then ((fullerref03_Same.f k3 t394 t397 t406 t409).bind fun t423 => (some t423)) else (none)) else (some true)) else (none)) else (none))) else (none)) else (none)) = some r := by rw [if_pos rfl] at H; exact H
                  clear H
                  have H := H1
                  clear H1
                  by_cases c50 : 0 ≤ ji16
                  ·rw [if_pos c50] at H
                   have c50b0 := eq_true c50
                   have c50b1 : decide (0 ≤ ji16) = true := decide_eq_true c50
                   clear c50
                   by_cases c51 : ji16 ≤ (l0.length : Int)
                   ·rw [if_pos c51] at H
                    have c51b0 := eq_true c51
                    have c51b1 : decide (ji16 ≤ (l0.length : Int)) = true := decide_eq_true c51
                    clear c51
                    obtain ⟨y418, hy418⟩ : ∃ y_ : List (S41), y_ = (l0.take (ji16 : Int).toNat) := ⟨_, rfl⟩
                    replace H : ((chain_Check.f k3 y418).bind fun t422 => (if t422 = true then (if t417 = true then (if x13_19 = true then (if (true == t412) = true then ((fullerref03_Same.f k3 t394 t397 t406 t409).bind fun t423 => (some t423)) else (none)) else (some true)) else (none)) else (none))) = some r := by first | (rw [hy418]; with_reducible exact H) | (have H2_ := (Option.bind_some _ _).symm.trans H; rw [hy418]; with_reducible exact H2_) | (have H2_ := (Option.bind_some _ _).symm.trans H; with_reducible exact H2_) | with_reducible exact H | (rw [hy418]; exact H) | exact H
                    have Ny418 := Aside0.mk hy418
                    clear hy418
                    replace H := Option.bind_eq_some_iff.mp H
                    obtain ⟨t422, A520, H⟩ := H
                    replace H : (if t422 = true then (if t417 = true then (if x13_19 = true then (if (true == t412) = true then ((fullerref03_Same.f k3 t394 t397 t406 t409).bind fun t423 => (some t423)) else (none)) else (some true)) else (none)) else (none)) = some r := H
                    have A52 := Aside0.mk A520
                    clear A520
                    by_cases c53 : t422 = true
                    ·subst c53
                     have H1 : (if t417 = true then (if x13_19 = true then (if (true == t412) = true then ((fullerref03_Same.f k3 t394 t397 t406 t409).bind fun t423 => (some t423)) else (none)) else (some true)) else (none)) = some r := by rw [if_pos rfl] at H; exact H
                     clear H
                     have H := H1
                     clear H1
                     by_cases c54 : t417 = true
                     ·subst c54
                      have H1 : (if x13_19 = true then (if (true == t412) = true then ((fullerref03_Same.f k3 t394 t397 t406 t409).bind fun t423 => (some t423)) else (none)) else (some true)) = some r := by rw [if_pos rfl] at H; exact H
                      clear H
                      have H := H1
                      clear H1
                      by_cases c55 : x13_19 = true
                      ·subst c55
                       have H1 : (if (true == t412) = true then ((fullerref03_Same.f k3 t394 t397 t406 t409).bind fun t423 => (some t423)) else (none)) = some r := by rw [if_pos rfl] at H; exact H
                       clear H
                       have H := H1
                       clear H1
                       by_cases c56 : (true == t412) = true
                       ·rw [if_pos c56] at H
                        have c56b0 : (true == t412) = true := c56
                        (try (have c56b1 : decide (true = t412) = true := by simpa using c56))
                        (try (have c56b2 : (true == t412) = true := by simpa using c56))
                        clear c56
                        replace H := Option.bind_eq_some_iff.mp H
                        obtain ⟨t423, A570, H⟩ := H
                        replace H : (some t423) = some r := H
                        have A57 := Aside0.mk A570
                        clear A570
                        obtain rfl := Option.some.inj H
                        try go_wp2
                        have n0_ := Aside0.mk (Kd.R_drew HO_402000.out)
                        have n1_ := Aside0.mk (Kd.R_drew HO_402001.out)
                        have n2_ := Aside0.mk (Kd.R_drew HO_414000.out)
                        have n3_ := Aside0.mk (Kd.R_drew HO_414001.out)
                        have n4_ := Aside0.mk (blk_drew BK401.out)
                        have n5_ := Aside0.mk (blk_drew BK413.out)
                        have n6_ := Aside0.mk (below_drew1 HB.out)
                        clear HO_402000 HO_402001 HO_414000 HO_414001 BK401 BK413 HB
                        have HO_402000 := n0_
                        have HO_402001 := n1_
                        have HO_414000 := n2_
                        have HO_414001 := n3_
                        have BK401 := n4_
                        have BK413 := n5_
                        have HB := n6_
                        clear n0_ n1_ n2_ n3_ n4_ n5_ n6_
                        have p416 : 0 ≤ ((ji45) : Int) := of_decide_eq_true (by first | (with_reducible assumption) | assumption)
                        have q416 : (ji45) < (l0.length : Int) := of_decide_eq_true (by first | (with_reducible assumption) | assumption)
                        obtain ⟨ad416, A416_1, c416_1, A416_2, c416_2, e416, hx416_0, hx416_1, hx416_2, hl416_1, hi416_1, hl416_2, hi416_2⟩ := at_T41 HR0.out (ji45) p416 q416
                        have hw416_2 := hx416_2
                        have hw416_1 := hx416_1
                        have hw416_0 := hx416_0
                        cases e416
                        replace hx416_0 := (HB.out.cell (World.block_lt_of_cell? w _ hx416_0)).trans hx416_0
                        replace hx416_1 := (HB.out.cell (World.block_lt_of_cell? w _ hx416_1)).trans hx416_1
                        replace hx416_2 := (HB.out.cell (World.block_lt_of_cell? w _ hx416_2)).trans hx416_2
                        have HR416_1 := Aside0.mk hi416_1
                        have HC416_1 := Aside0.mk hl416_1
                        clear hi416_1 hl416_1
                        have HR416_2 := Aside0.mk hi416_2
                        have HC416_2 := Aside0.mk hl416_2
                        clear hi416_2 hl416_2
                        replace p416 := eq_true p416
                        replace q416 := eq_true q416
                        refine start_ (n := 24) (S := fun w' => w'.cell? ⟨gb401, 0, none⟩ = some (.slice Ao23 t394.length co23) ∧ w'.cell? ⟨gb401, 1, none⟩ = some (.slice Ao25 t397.length co25) ∧ w'.cell? (ad416.add (((ji45)).toNat * 3)) = some (.int .i64 ((rd_T41 l0 (ji45)).f0)) ∧ w'.cell? ⟨(ad416.add (((ji45)).toNat * 3)).block, (ad416.add (((ji45)).toNat * 3)).off + 1, none⟩ = some (.slice A416_1 ((rd_T41 l0 (ji45)).f1.f0).length c416_1) ∧ w'.cell? ⟨(ad416.add (((ji45)).toNat * 3)).block, (ad416.add (((ji45)).toNat * 3)).off + 2, none⟩ = some (.slice A416_2 ((rd_T41 l0 (ji45)).f1.f1).length c416_2)) (ds := []) L6_0 (by kernel_rfl) rfl rfl ⟨(blk_cell BK401.out 0).trans rfl, (blk_cell BK401.out 1).trans rfl, ((HB.out.cell (World.block_lt_of_cell? w _ hw416_0)).trans hw416_0), ((HB.out.cell (World.block_lt_of_cell? w _ hw416_1)).trans hw416_1), ((HB.out.cell (World.block_lt_of_cell? w _ hw416_2)).trans hw416_2)⟩ (fun hHeld => ?_); refine with_tabW fullerlaw17_ChainCuts.tab14 fullerlaw17_ChainCuts.bits14 (fun HT_ HW_ => ?_)
                        generalize wr.drew = w58 at HO_402000 HO_402001 HO_414000 HO_414001 BK401 BK413 HB HR416_1 HR416_2 hx416_0 hx416_1 hx416_2 hHeld ⊢
                        refine pure_ (i := 0) (N := some 79) (v := ?_) (a' := ?_) L6_1 rfl rfl (any_of HT_.out (by kernel_rfl)) (fun _ _ _ h => h) (Or.inl ⟨by rfl, ?_⟩) ?_ ?_
                        rotate_left
                        ·intro w'
                         go_simp
                         with_reducible rfl
                        rotate_left
                        ·simp only [Act.put, sA_, sB_, sC_, i64_w, i32_w]
                         rfl
                        refine pure_ (i := 1) (N := some 80) (v := ?_) (a' := ?_) L6_2 rfl rfl (any_of HT_.out (by kernel_rfl)) (fun _ _ _ h => h) (Or.inl ⟨by rfl, ?_⟩) ?_ ?_
                        rotate_left
                        ·intro w'
                         go_simp
                         with_reducible rfl
                        rotate_left
                        ·simp only [Act.put, sA_, sB_, sC_, i64_w, i32_w]
                         rfl
                        refine pure_ (i := 2) (N := some 81) (v := ?_) (a' := ?_) L6_3 rfl rfl (any_of HT_.out (by kernel_rfl)) (fun _ _ _ h => h) (Or.inl ⟨by rfl, ?_⟩) ?_ ?_
                        rotate_left
                        ·intro w'
                         go_simp
                         with_reducible rfl
                        rotate_left
                        ·simp only [Act.put, sA_, sB_, sC_, i64_w, i32_w]
                         rfl
                        refine pure_ (i := 3) (N := some 82) (v := ?_) (a' := ?_) L6_4 rfl rfl (any_of HT_.out (by kernel_rfl)) (fun _ _ _ h => h) (Or.inl ⟨by rfl, ?_⟩) ?_ ?_
                        rotate_left
                        ·intro w'
                         go_simp
                         with_reducible rfl
                        rotate_left
                        ·simp only [Act.put, sA_, sB_, sC_, i64_w, i32_w]
                         rfl
                        refine pure_ (i := 4) (N := some 83) (v := ?_) (a' := ?_) L6_5 rfl rfl (any_of HT_.out (by kernel_rfl)) (fun _ _ _ h => h) (Or.inl ⟨by rfl, ?_⟩) ?_ ?_
                        rotate_left
                        ·intro w'
                         go_simp
                         with_reducible rfl
                        rotate_left
                        ·simp only [Act.put, sA_, sB_, sC_, i64_w, i32_w]
                         rfl
                        refine pure_ (i := 5) (N := some 84) (v := ?_) (a' := ?_) L6_6 rfl rfl (any_of HT_.out (by kernel_rfl)) (fun _ _ _ h => h) (Or.inl ⟨by rfl, ?_⟩) ?_ ?_
                        rotate_left
                        ·intro w'
                         go_simp
                         with_reducible rfl
                        rotate_left
                        ·simp only [Act.put, sA_, sB_, sC_, i64_w, i32_w]
                         rfl
                        refine pure_ (i := 6) (N := some 85) (v := ?_) (a' := ?_) L6_7 rfl rfl (any_of HT_.out (by kernel_rfl)) (fun _ _ _ h => h) (Or.inl ⟨by rfl, ?_⟩) ?_ ?_
                        rotate_left
                        ·intro w'
                         go_simp
                         with_reducible rfl
                        rotate_left
                        ·simp only [Act.put, sA_, sB_, sC_, i64_w, i32_w]
                         rfl
                        refine pure_ (i := 7) (N := some 86) (v := ?_) (a' := ?_) L6_8 rfl rfl (any_of HT_.out (by kernel_rfl)) (fun _ _ _ h => h) (Or.inl ⟨by rfl, ?_⟩) ?_ ?_
                        rotate_left
                        ·intro w'
                         go_simp
                         with_reducible rfl
                        rotate_left
                        ·simp only [Act.put, sA_, sB_, sC_, i64_w, i32_w]
                         rfl
                        refine pure_ (i := 8) (N := some 87) (v := ?_) (a' := ?_) L6_9 rfl rfl (any_of HT_.out (by kernel_rfl)) (fun _ _ _ h => h) (Or.inl ⟨by rfl, ?_⟩) ?_ ?_
                        rotate_left
                        ·intro w'
                         go_simp
                         with_reducible rfl
                        rotate_left
                        ·simp only [Act.put, sA_, sB_, sC_, i64_w, i32_w]
                         rfl
                        refine pure_ (i := 9) (N := some 88) (v := ?_) (a' := ?_) L6_10 rfl rfl (any_of HT_.out (by kernel_rfl)) (fun _ _ _ h => h) (Or.inl ⟨by rfl, ?_⟩) ?_ ?_
                        rotate_left
                        ·intro w'
                         go_simp
                         with_reducible rfl
                        rotate_left
                        ·simp only [Act.put, sA_, sB_, sC_, i64_w, i32_w]
                         rfl
                        refine pure_ (i := 10) (N := some 89) (v := ?_) (a' := ?_) L6_11 rfl rfl (any_of HT_.out (by kernel_rfl)) (fun _ _ _ h => h) (Or.inl ⟨by rfl, ?_⟩) ?_ ?_
                        rotate_left
                        ·intro w'
                         go_simp
                         with_reducible rfl
                        rotate_left
                        ·simp only [Act.put, sA_, sB_, sC_, i64_w, i32_w]
                         rfl
                        refine pure_ (i := 11) (N := some 90) (v := ?_) (a' := ?_) L6_12 rfl rfl (any_of HT_.out (by kernel_rfl)) (fun _ _ _ h => h) (Or.inl ⟨by rfl, ?_⟩) ?_ ?_
                        rotate_left
                        ·intro w'
                         go_simp
                         with_reducible rfl
                        rotate_left
                        ·simp only [Act.put, sA_, sB_, sC_, i64_w, i32_w]
                         rfl
                        refine pure_ (i := 12) (N := some 91) (v := ?_) (a' := ?_) L6_13 rfl rfl (any_of HT_.out (by kernel_rfl)) (fun _ _ _ h => h) (Or.inl ⟨by rfl, ?_⟩) ?_ ?_
                        rotate_left
                        ·intro w'
                         go_simp
                         with_reducible rfl
                        rotate_left
                        ·simp only [Act.put, sA_, sB_, sC_, i64_w, i32_w]
                         rfl
                        refine pure_ (i := 14) (N := some 93) (v := ?_) (a' := ?_) L6_14 rfl rfl (any_of HT_.out (by kernel_rfl)) (fun _ _ _ h => h) (Or.inl ⟨by rfl, ?_⟩) ?_ ?_
                        rotate_left
                        ·intro w'
                         go_simp
                         with_reducible rfl
                        rotate_left
                        ·simp only [Act.put, sA_, sB_, sC_, i64_w, i32_w]
                         rfl
                        refine pure_ (i := 15) (N := some 94) (v := ?_) (a' := ?_) L6_15 rfl rfl (any_of HT_.out (by kernel_rfl)) (fun _ _ _ h => h) (Or.inl ⟨by rfl, ?_⟩) ?_ ?_
                        rotate_left
                        ·intro w'
                         go_simp
                         with_reducible rfl
                        rotate_left
                        ·simp only [Act.put, sA_, sB_, sC_, i64_w, i32_w]
                         rfl
                        refine pure_ (i := 16) (N := some 95) (v := ?_) (a' := ?_) L6_16 rfl rfl (any_of HT_.out (by kernel_rfl)) (fun _ _ _ h => h) (Or.inl ⟨by rfl, ?_⟩) ?_ ?_
                        rotate_left
                        ·intro w'
                         go_simp
                         with_reducible rfl
                        rotate_left
                        ·simp only [Act.put, sA_, sB_, sC_, i64_w, i32_w]
                         rfl
                        refine pure_ (i := 17) (N := some 96) (v := ?_) (a' := ?_) L6_17 rfl rfl (any_of HT_.out (by kernel_rfl)) (fun _ _ _ h => h) (Or.inl ⟨by rfl, ?_⟩) ?_ ?_
                        rotate_left
                        ·intro w'
                         go_simp
                         with_reducible rfl
                        rotate_left
                        ·simp only [Act.put, sA_, sB_, sC_, i64_w, i32_w]
                         rfl
                        refine pure_ (i := 18) (N := some 97) (v := ?_) (a' := ?_) L6_18 rfl rfl (any_of HT_.out (by kernel_rfl)) (fun _ _ _ h => h) (Or.inl ⟨by rfl, ?_⟩) ?_ ?_
                        rotate_left
                        ·intro w'
                         go_simp
                         with_reducible rfl
                        rotate_left
                        ·simp only [Act.put, sA_, sB_, sC_, i64_w, i32_w]
                         rfl
                        refine take_ (i := 13) (N := some 92) (v := ?_) (a' := ?_) L6_19 rfl rfl (take_ofW HT_.out HW_.out (by kernel_rfl)) (fun _ _ _ h => h) (Or.inl ⟨by rfl, ?_⟩) hHeld ?_ ?_
                        rotate_left
                        ·rintro w' ⟨s0, s1, s2, s3, s4⟩
                         go_simp
                         with_reducible rfl
                        rotate_left
                        ·simp only [Act.put, sA_, sB_, sC_, i64_w, i32_w]
                         rfl
                        refine take_ (i := 19) (N := some 98) (v := ?_) (a' := ?_) L6_20 rfl rfl (take_ofW HT_.out HW_.out (by kernel_rfl)) (fun _ _ _ h => h) (Or.inl ⟨by rfl, ?_⟩) hHeld ?_ ?_
                        rotate_left
                        ·rintro w' ⟨s0, s1, s2, s3, s4⟩
                         go_simp
                         with_reducible rfl
                        rotate_left
                        ·simp only [Act.put, sA_, sB_, sC_, i64_w, i32_w]
                         rfl
                        refine one_ (i := 20) (N := some 99) L6_21 rfl rfl (one_of HT_.out (by kernel_rfl)) (by decide) (fun K hK => ?_)
                        refine goes_ Try.func15 (by kernel_rfl) rfl #[.agg #[.slice Ao23 t394.length co23, .slice Ao25 t397.length co25], .agg #[.slice A416_1 ((rd_T41 l0 (ji45)).f1.f0).length c416_1, .slice A416_2 ((rd_T41 l0 (ji45)).f1.f1).length c416_2]] (by rfl) rfl rfl (by (try simp only [List.map_toArray, List.map_cons, List.map_nil]); first | done | (simp only [hji45]; rfl) | rfl | (simp only [List.length_drop, List.length_take]; rfl)) ?_
                        with_reducible refine (fullerref03_Same.calls k3 _ _ t394 _ _ t397 _ _ ((rd_T41 l0 (ji45)).f1.f0) _ _ ((rd_T41 l0 (ji45)).f1.f1) true _ ?side1 ?side2 ?side3 ?side4 ?side5 ?side6 ?side7 ?side8 A48.out).mono ?_
                        (case side1 => repeat (first | exact (Kd.R_reads' HO_402000.out).2.2 | (with_reducible refine Kd.C_alloc ?_ _) | (with_reducible refine Kd.C_drewN ?_ _) | (with_reducible refine Kd.C_drew ?_)))
                        (case side2 => exact (Kd.R_reads' HO_402000.out).2.1)
                        (case side3 => repeat (first | exact (Kd.R_reads' HO_402001.out).2.2 | (with_reducible refine Kd.C_alloc ?_ _) | (with_reducible refine Kd.C_drewN ?_ _) | (with_reducible refine Kd.C_drew ?_)))
                        (case side4 => exact (Kd.R_reads' HO_402001.out).2.1)
                        (case side5 => repeat (first | exact (Kd.C_below HR416_1.out HB.out) | (with_reducible refine Kd.C_alloc ?_ _) | (with_reducible refine Kd.C_drewN ?_ _) | (with_reducible refine Kd.C_drew ?_)))
                        (case side6 => exact HC416_1.out)
                        (case side7 => repeat (first | exact (Kd.C_below HR416_2.out HB.out) | (with_reducible refine Kd.C_alloc ?_ _) | (with_reducible refine Kd.C_drewN ?_ _) | (with_reducible refine Kd.C_drew ?_)))
                        (case side8 => exact HC416_2.out)
                        rintro e w59 ⟨rfl, hb⟩
                        refine ⟨_, rfl, ?_⟩
                        have n0_ := Aside0.mk (Kd.R_below (mvR_ HO_402000.out) hb)
                        have n1_ := Aside0.mk (Kd.R_below (mvR_ HO_402001.out) hb)
                        have n2_ := Aside0.mk (Kd.R_below (mvR_ HO_414000.out) hb)
                        have n3_ := Aside0.mk (Kd.R_below (mvR_ HO_414001.out) hb)
                        have n4_ := Aside0.mk (blk_below (g := gb401) (o := .cells #[.slice Ao23 t394.length co23, .slice Ao25 t397.length co25] 25 (0, 0)) (mvK_ BK401.out) hb)
                        have n5_ := Aside0.mk (blk_below (g := gb413) (o := .cells #[.slice Ao30 t406.length co30, .slice Ao33 t409.length co33] 25 (0, 0)) (mvK_ BK413.out) hb)
                        have n6_ := Aside0.mk (below_step (bq2_ HB.out GE401.out GE413.out) hb)
                        clear HO_402000 HO_402001 HO_414000 HO_414001 BK401 BK413 HB
                        have HO_402000 := n0_
                        have HO_402001 := n1_
                        have HO_414000 := n2_
                        have HO_414001 := n3_
                        have BK401 := n4_
                        have BK413 := n5_
                        have HB := n6_
                        clear n0_ n1_ n2_ n3_ n4_ n5_ n6_
                        (try clear hb)
                        (try clear hb2)
                        (try clear hk)
                        (try clear hi)
                        refine hK.out _ _ ⟨(blk_cell BK401.out 0).trans rfl, (blk_cell BK401.out 1).trans rfl, ((HB.out.cell (World.block_lt_of_cell? w _ hw416_0)).trans hw416_0), ((HB.out.cell (World.block_lt_of_cell? w _ hw416_1)).trans hw416_1), ((HB.out.cell (World.block_lt_of_cell? w _ hw416_2)).trans hw416_2)⟩ (fun hHeld => ?_)
                        clear hK K
                        refine norm_ (a' := ?_) ?_ ?_
                        rotate_left
                        ·show Act.put _ (some 99) _ = _
                         simp only [Act.put, sA_, sB_, sC_, i64_w, i32_w]
                         rfl
                        refine pure_ (i := 21) (N := some 100) (v := ?_) (a' := ?_) L6_22 rfl rfl (any_of HT_.out (by kernel_rfl)) (fun _ _ _ h => h) (Or.inl ⟨by rfl, ?_⟩) ?_ ?_
                        rotate_left
                        ·intro w'
                         go_simp
                         with_reducible rfl
                        rotate_left
                        ·simp only [Act.put, sA_, sB_, sC_, i64_w, i32_w]
                         rfl
                        refine pure_ (i := 22) (N := some 101) (v := ?_) (a' := ?_) L6_23 rfl rfl (any_of HT_.out (by kernel_rfl)) (fun _ _ _ h => h) (Or.inl ⟨by rfl, ?_⟩) ?_ ?_
                        rotate_left
                        ·intro w'
                         go_simp
                         with_reducible rfl
                        rotate_left
                        ·simp only [Act.put, sA_, sB_, sC_, i64_w, i32_w]
                         rfl
                        refine pure_ (i := 23) (N := some 16) (v := ?_) (a' := ?_) L6_24 rfl rfl (any_of HT_.out (by kernel_rfl)) (fun _ _ _ h => h) (Or.inl ⟨by rfl, ?_⟩) ?_ ?_
                        rotate_left
                        ·intro w'
                         go_simp
                         with_reducible rfl
                        rotate_left
                        ·simp only [Act.put, sA_, sB_, sC_, i64_w, i32_w]
                         rfl
                        refine done_ (done_of HT_.out (by kernel_rfl)) ?_
                        have q60 : (ji16 : Int) ≤ ((l0.length : Int) : Int) := of_decide_eq_true (by first | (with_reducible assumption) | assumption)
                        obtain ⟨i060, hi060, _, hsz60, _⟩ := info_parts info41
                        have hroom60 : l0.length ≤ c0 := HC0.out
                        have hC60 : Kd.C k41 _ (some ad416) l0.length l0 := HR0.out
                        (try clear hcut27)
                        have hcut60 := cut_to (P := Try.prog) 22 41 .i64 Try.underlying22 hi060 (some ad416) l0.length c0 ji16 (of_decide_eq_true (by first | (with_reducible assumption) | assumption)) q60 hroom60
                        have hr60 := Kd.C_take (m := (ji16 : Int).toNat) hC60 (by omega)
                        have hy60 : y418.length = (ji16 : Int).toNat := (by rw [Ny418.out, List.length_take]; omega)
                        rw [← Ny418.out] at hr60
                        rw [← hy60] at hcut60
                        have HR421 := Aside0.mk hr60
                        have HC421 := Aside0.mk (show y418.length ≤ c0 from by omega)
                        clear hr60 hC60 hroom60 hi060 hsz60
                        have KY60 := Aside0.mk hy60
                        clear hy60
                        replace q60 := eq_true q60
                        try go_wp2_with (first | (go_at_call 17; (with_reducible refine (chain_Check.calls k3 _ _ y418 true _ ?side1 ?side2 A52.out).mono ?_); (case side1 => repeat (first | exact (Kd.C_below HR421.out HB.out) | (with_reducible refine Kd.C_alloc ?_ _) | (with_reducible refine Kd.C_drewN ?_ _) | (with_reducible refine Kd.C_drew ?_))); (case side2 => exact HC421.out); rintro e w61 ⟨rfl, hb⟩; have n0_ := Aside0.mk (Kd.R_below (mvR_ HO_402000.out) hb); have n1_ := Aside0.mk (Kd.R_below (mvR_ HO_402001.out) hb); have n2_ := Aside0.mk (Kd.R_below (mvR_ HO_414000.out) hb); have n3_ := Aside0.mk (Kd.R_below (mvR_ HO_414001.out) hb); have n4_ := Aside0.mk (blk_below (g := gb401) (o := .cells #[.slice Ao23 t394.length co23, .slice Ao25 t397.length co25] 25 (0, 0)) (mvK_ BK401.out) hb); have n5_ := Aside0.mk (blk_below (g := gb413) (o := .cells #[.slice Ao30 t406.length co30, .slice Ao33 t409.length co33] 25 (0, 0)) (mvK_ BK413.out) hb); have n6_ := Aside0.mk (below_step (bq2_ HB.out GE401.out GE413.out) hb); clear HO_402000; clear HO_402001; clear HO_414000; clear HO_414001; clear BK401; clear BK413; clear HB; have HO_402000 := n0_; have HO_402001 := n1_; have HO_414000 := n2_; have HO_414001 := n3_; have BK401 := n4_; have BK413 := n5_; have HB := n6_; clear n0_ n1_ n2_ n3_ n4_ n5_ n6_; (try clear hb); (try clear hb2); (try clear hk); (try clear hi); have hnb62 := NB401_413.out; have hnc62 := NB413_401.out; have hcz63_0 : w61.cell? ⟨gb401, 0, none⟩ = some (.slice Ao23 t394.length co23) := (blk_cell BK401.out 0).trans rfl; have hcz63_1 : w61.cell? ⟨gb401, 1, none⟩ = some (.slice Ao25 t397.length co25) := (blk_cell BK401.out 1).trans rfl; have hfz63_0 := blk_frozen BK401.out 0; have hfz63_1 := blk_frozen BK401.out 1; have hcz64_0 : w61.cell? ⟨gb413, 0, none⟩ = some (.slice Ao30 t406.length co30) := (blk_cell BK413.out 0).trans rfl; have hcz64_1 : w61.cell? ⟨gb413, 1, none⟩ = some (.slice Ao33 t409.length co33) := (blk_cell BK413.out 1).trans rfl; have hfz64_0 := blk_frozen BK413.out 0; have hfz64_1 := blk_frozen BK413.out 1) | (go_at_call 15; (with_reducible refine (fullerref03_Same.calls k3 _ _ t394 _ _ t397 _ _ t406 _ _ t409 t423 _ ?side1 ?side2 ?side3 ?side4 ?side5 ?side6 ?side7 ?side8 A57.out).mono ?_); (case side1 => repeat (first | exact (Kd.R_reads' HO_402000.out).2.2 | (with_reducible refine Kd.C_alloc ?_ _) | (with_reducible refine Kd.C_drewN ?_ _) | (with_reducible refine Kd.C_drew ?_))); (case side2 => exact (Kd.R_reads' HO_402000.out).2.1); (case side3 => repeat (first | exact (Kd.R_reads' HO_402001.out).2.2 | (with_reducible refine Kd.C_alloc ?_ _) | (with_reducible refine Kd.C_drewN ?_ _) | (with_reducible refine Kd.C_drew ?_))); (case side4 => exact (Kd.R_reads' HO_402001.out).2.1); (case side5 => repeat (first | exact (Kd.R_reads' HO_414000.out).2.2 | (with_reducible refine Kd.C_alloc ?_ _) | (with_reducible refine Kd.C_drewN ?_ _) | (with_reducible refine Kd.C_drew ?_))); (case side6 => exact (Kd.R_reads' HO_414000.out).2.1); (case side7 => repeat (first | exact (Kd.R_reads' HO_414001.out).2.2 | (with_reducible refine Kd.C_alloc ?_ _) | (with_reducible refine Kd.C_drewN ?_ _) | (with_reducible refine Kd.C_drew ?_))); (case side8 => exact (Kd.R_reads' HO_414001.out).2.1); rintro e w65 ⟨rfl, hb⟩; have n0_ := Aside0.mk (Kd.R_below (mvR_ HO_402000.out) hb); have n1_ := Aside0.mk (Kd.R_below (mvR_ HO_402001.out) hb); have n2_ := Aside0.mk (Kd.R_below (mvR_ HO_414000.out) hb); have n3_ := Aside0.mk (Kd.R_below (mvR_ HO_414001.out) hb); have n4_ := Aside0.mk (blk_below (g := gb401) (o := .cells #[.slice Ao23 t394.length co23, .slice Ao25 t397.length co25] 25 (0, 0)) (mvK_ BK401.out) hb); have n5_ := Aside0.mk (blk_below (g := gb413) (o := .cells #[.slice Ao30 t406.length co30, .slice Ao33 t409.length co33] 25 (0, 0)) (mvK_ BK413.out) hb); have n6_ := Aside0.mk (below_step (bq2_ HB.out GE401.out GE413.out) hb); clear HO_402000; clear HO_402001; clear HO_414000; clear HO_414001; clear BK401; clear BK413; clear HB; have HO_402000 := n0_; have HO_402001 := n1_; have HO_414000 := n2_; have HO_414001 := n3_; have BK401 := n4_; have BK413 := n5_; have HB := n6_; clear n0_ n1_ n2_ n3_ n4_ n5_ n6_; (try clear hb); (try clear hb2); (try clear hk); (try clear hi)))
                        go_ret
                        exact ⟨by first | rfl | (simp [errW_none, errW_some] <;> rfl) | (simp only [← hji16, ← hji45]; first | rfl | (simp [errW_none, errW_some] <;> rfl)) | (simp [*, errW_none, errW_some] <;> rfl), by repeat (first | (with_reducible first | exact HB.out | apply below_alloc | apply pw_below_drewN | apply below_drew1 | refine below_set ?_ GE401.out | refine below_set ?_ GE413.out) | exact HB.out)⟩
                       ·rw [if_neg c56] at H
                        exact absurd H (by simp)
                      ·replace c55 := Bool.eq_false_iff.mpr c55
                       subst c55
                       have H1 : (some true) = some r := by rw [if_neg (show ¬ (false = true) by decide)] at H; exact H
                       clear H
                       have H := H1
                       clear H1
                       obtain rfl := Option.some.inj H
                       try go_wp2
                       have n0_ := Aside0.mk (Kd.R_drew HO_402000.out)
                       have n1_ := Aside0.mk (Kd.R_drew HO_402001.out)
                       have n2_ := Aside0.mk (Kd.R_drew HO_414000.out)
                       have n3_ := Aside0.mk (Kd.R_drew HO_414001.out)
                       have n4_ := Aside0.mk (blk_drew BK401.out)
                       have n5_ := Aside0.mk (blk_drew BK413.out)
                       have n6_ := Aside0.mk (below_drew1 HB.out)
                       clear HO_402000 HO_402001 HO_414000 HO_414001 BK401 BK413 HB
                       have HO_402000 := n0_
                       have HO_402001 := n1_
                       have HO_414000 := n2_
                       have HO_414001 := n3_
                       have BK401 := n4_
                       have BK413 := n5_
                       have HB := n6_
                       clear n0_ n1_ n2_ n3_ n4_ n5_ n6_
                       have p416 : 0 ≤ ((ji45) : Int) := of_decide_eq_true (by first | (with_reducible assumption) | assumption)
                       have q416 : (ji45) < (l0.length : Int) := of_decide_eq_true (by first | (with_reducible assumption) | assumption)
                       obtain ⟨ad416, A416_1, c416_1, A416_2, c416_2, e416, hx416_0, hx416_1, hx416_2, hl416_1, hi416_1, hl416_2, hi416_2⟩ := at_T41 HR0.out (ji45) p416 q416
                       have hw416_2 := hx416_2
                       have hw416_1 := hx416_1
                       have hw416_0 := hx416_0
                       cases e416
                       replace hx416_0 := (HB.out.cell (World.block_lt_of_cell? w _ hx416_0)).trans hx416_0
                       replace hx416_1 := (HB.out.cell (World.block_lt_of_cell? w _ hx416_1)).trans hx416_1
                       replace hx416_2 := (HB.out.cell (World.block_lt_of_cell? w _ hx416_2)).trans hx416_2
                       have HR416_1 := Aside0.mk hi416_1
                       have HC416_1 := Aside0.mk hl416_1
                       clear hi416_1 hl416_1
                       have HR416_2 := Aside0.mk hi416_2
                       have HC416_2 := Aside0.mk hl416_2
                       clear hi416_2 hl416_2
                       replace p416 := eq_true p416
                       replace q416 := eq_true q416
                       refine start_ (n := 24) (S := fun w' => w'.cell? ⟨gb401, 0, none⟩ = some (.slice Ao23 t394.length co23) ∧ w'.cell? ⟨gb401, 1, none⟩ = some (.slice Ao25 t397.length co25) ∧ w'.cell? (ad416.add (((ji45)).toNat * 3)) = some (.int .i64 ((rd_T41 l0 (ji45)).f0)) ∧ w'.cell? ⟨(ad416.add (((ji45)).toNat * 3)).block, (ad416.add (((ji45)).toNat * 3)).off + 1, none⟩ = some (.slice A416_1 ((rd_T41 l0 (ji45)).f1.f0).length c416_1) ∧ w'.cell? ⟨(ad416.add (((ji45)).toNat * 3)).block, (ad416.add (((ji45)).toNat * 3)).off + 2, none⟩ = some (.slice A416_2 ((rd_T41 l0 (ji45)).f1.f1).length c416_2)) (ds := []) L6_0 (by kernel_rfl) rfl rfl ⟨(blk_cell BK401.out 0).trans rfl, (blk_cell BK401.out 1).trans rfl, ((HB.out.cell (World.block_lt_of_cell? w _ hw416_0)).trans hw416_0), ((HB.out.cell (World.block_lt_of_cell? w _ hw416_1)).trans hw416_1), ((HB.out.cell (World.block_lt_of_cell? w _ hw416_2)).trans hw416_2)⟩ (fun hHeld => ?_); refine with_tabW fullerlaw17_ChainCuts.tab14 fullerlaw17_ChainCuts.bits14 (fun HT_ HW_ => ?_)
                       generalize wr.drew = w66 at HO_402000 HO_402001 HO_414000 HO_414001 BK401 BK413 HB HR416_1 HR416_2 hx416_0 hx416_1 hx416_2 hHeld ⊢
                       refine pure_ (i := 0) (N := some 79) (v := ?_) (a' := ?_) L6_1 rfl rfl (any_of HT_.out (by kernel_rfl)) (fun _ _ _ h => h) (Or.inl ⟨by rfl, ?_⟩) ?_ ?_
                       rotate_left
                       ·intro w'
                        go_simp
                        with_reducible rfl
                       rotate_left
                       ·simp only [Act.put, sA_, sB_, sC_, i64_w, i32_w]
                        rfl
                       refine pure_ (i := 1) (N := some 80) (v := ?_) (a' := ?_) L6_2 rfl rfl (any_of HT_.out (by kernel_rfl)) (fun _ _ _ h => h) (Or.inl ⟨by rfl, ?_⟩) ?_ ?_
                       rotate_left
                       ·intro w'
                        go_simp
                        with_reducible rfl
                       rotate_left
                       ·simp only [Act.put, sA_, sB_, sC_, i64_w, i32_w]
                        rfl
                       refine pure_ (i := 2) (N := some 81) (v := ?_) (a' := ?_) L6_3 rfl rfl (any_of HT_.out (by kernel_rfl)) (fun _ _ _ h => h) (Or.inl ⟨by rfl, ?_⟩) ?_ ?_
                       rotate_left
                       ·intro w'
                        go_simp
                        with_reducible rfl
                       rotate_left
                       ·simp only [Act.put, sA_, sB_, sC_, i64_w, i32_w]
                        rfl
                       refine pure_ (i := 3) (N := some 82) (v := ?_) (a' := ?_) L6_4 rfl rfl (any_of HT_.out (by kernel_rfl)) (fun _ _ _ h => h) (Or.inl ⟨by rfl, ?_⟩) ?_ ?_
                       rotate_left
                       ·intro w'
                        go_simp
                        with_reducible rfl
                       rotate_left
                       ·simp only [Act.put, sA_, sB_, sC_, i64_w, i32_w]
                        rfl
                       refine pure_ (i := 4) (N := some 83) (v := ?_) (a' := ?_) L6_5 rfl rfl (any_of HT_.out (by kernel_rfl)) (fun _ _ _ h => h) (Or.inl ⟨by rfl, ?_⟩) ?_ ?_
                       rotate_left
                       ·intro w'
                        go_simp
                        with_reducible rfl
                       rotate_left
                       ·simp only [Act.put, sA_, sB_, sC_, i64_w, i32_w]
                        rfl
                       refine pure_ (i := 5) (N := some 84) (v := ?_) (a' := ?_) L6_6 rfl rfl (any_of HT_.out (by kernel_rfl)) (fun _ _ _ h => h) (Or.inl ⟨by rfl, ?_⟩) ?_ ?_
                       rotate_left
                       ·intro w'
                        go_simp
                        with_reducible rfl
                       rotate_left
                       ·simp only [Act.put, sA_, sB_, sC_, i64_w, i32_w]
                        rfl
                       refine pure_ (i := 6) (N := some 85) (v := ?_) (a' := ?_) L6_7 rfl rfl (any_of HT_.out (by kernel_rfl)) (fun _ _ _ h => h) (Or.inl ⟨by rfl, ?_⟩) ?_ ?_
                       rotate_left
                       ·intro w'
                        go_simp
                        with_reducible rfl
                       rotate_left
                       ·simp only [Act.put, sA_, sB_, sC_, i64_w, i32_w]
                        rfl
                       refine pure_ (i := 7) (N := some 86) (v := ?_) (a' := ?_) L6_8 rfl rfl (any_of HT_.out (by kernel_rfl)) (fun _ _ _ h => h) (Or.inl ⟨by rfl, ?_⟩) ?_ ?_
                       rotate_left
                       ·intro w'
                        go_simp
                        with_reducible rfl
                       rotate_left
                       ·simp only [Act.put, sA_, sB_, sC_, i64_w, i32_w]
                        rfl
                       refine pure_ (i := 8) (N := some 87) (v := ?_) (a' := ?_) L6_9 rfl rfl (any_of HT_.out (by kernel_rfl)) (fun _ _ _ h => h) (Or.inl ⟨by rfl, ?_⟩) ?_ ?_
                       rotate_left
                       ·intro w'
                        go_simp
                        with_reducible rfl
                       rotate_left
                       ·simp only [Act.put, sA_, sB_, sC_, i64_w, i32_w]
                        rfl
                       refine pure_ (i := 9) (N := some 88) (v := ?_) (a' := ?_) L6_10 rfl rfl (any_of HT_.out (by kernel_rfl)) (fun _ _ _ h => h) (Or.inl ⟨by rfl, ?_⟩) ?_ ?_
                       rotate_left
                       ·intro w'
                        go_simp
                        with_reducible rfl
                       rotate_left
                       ·simp only [Act.put, sA_, sB_, sC_, i64_w, i32_w]
                        rfl
                       refine pure_ (i := 10) (N := some 89) (v := ?_) (a' := ?_) L6_11 rfl rfl (any_of HT_.out (by kernel_rfl)) (fun _ _ _ h => h) (Or.inl ⟨by rfl, ?_⟩) ?_ ?_
                       rotate_left
                       ·intro w'
                        go_simp
                        with_reducible rfl
                       rotate_left
                       ·simp only [Act.put, sA_, sB_, sC_, i64_w, i32_w]
                        rfl
                       refine pure_ (i := 11) (N := some 90) (v := ?_) (a' := ?_) L6_12 rfl rfl (any_of HT_.out (by kernel_rfl)) (fun _ _ _ h => h) (Or.inl ⟨by rfl, ?_⟩) ?_ ?_
                       rotate_left
                       ·intro w'
                        go_simp
                        with_reducible rfl
                       rotate_left
                       ·simp only [Act.put, sA_, sB_, sC_, i64_w, i32_w]
                        rfl
                       refine pure_ (i := 12) (N := some 91) (v := ?_) (a' := ?_) L6_13 rfl rfl (any_of HT_.out (by kernel_rfl)) (fun _ _ _ h => h) (Or.inl ⟨by rfl, ?_⟩) ?_ ?_
                       rotate_left
                       ·intro w'
                        go_simp
                        with_reducible rfl
                       rotate_left
                       ·simp only [Act.put, sA_, sB_, sC_, i64_w, i32_w]
                        rfl
                       refine pure_ (i := 14) (N := some 93) (v := ?_) (a' := ?_) L6_14 rfl rfl (any_of HT_.out (by kernel_rfl)) (fun _ _ _ h => h) (Or.inl ⟨by rfl, ?_⟩) ?_ ?_
                       rotate_left
                       ·intro w'
                        go_simp
                        with_reducible rfl
                       rotate_left
                       ·simp only [Act.put, sA_, sB_, sC_, i64_w, i32_w]
                        rfl
                       refine pure_ (i := 15) (N := some 94) (v := ?_) (a' := ?_) L6_15 rfl rfl (any_of HT_.out (by kernel_rfl)) (fun _ _ _ h => h) (Or.inl ⟨by rfl, ?_⟩) ?_ ?_
                       rotate_left
                       ·intro w'
                        go_simp
                        with_reducible rfl
                       rotate_left
                       ·simp only [Act.put, sA_, sB_, sC_, i64_w, i32_w]
                        rfl
                       refine pure_ (i := 16) (N := some 95) (v := ?_) (a' := ?_) L6_16 rfl rfl (any_of HT_.out (by kernel_rfl)) (fun _ _ _ h => h) (Or.inl ⟨by rfl, ?_⟩) ?_ ?_
                       rotate_left
                       ·intro w'
                        go_simp
                        with_reducible rfl
                       rotate_left
                       ·simp only [Act.put, sA_, sB_, sC_, i64_w, i32_w]
                        rfl
                       refine pure_ (i := 17) (N := some 96) (v := ?_) (a' := ?_) L6_17 rfl rfl (any_of HT_.out (by kernel_rfl)) (fun _ _ _ h => h) (Or.inl ⟨by rfl, ?_⟩) ?_ ?_
                       rotate_left
                       ·intro w'
                        go_simp
                        with_reducible rfl
                       rotate_left
                       ·simp only [Act.put, sA_, sB_, sC_, i64_w, i32_w]
                        rfl
                       refine pure_ (i := 18) (N := some 97) (v := ?_) (a' := ?_) L6_18 rfl rfl (any_of HT_.out (by kernel_rfl)) (fun _ _ _ h => h) (Or.inl ⟨by rfl, ?_⟩) ?_ ?_
                       rotate_left
                       ·intro w'
                        go_simp
                        with_reducible rfl
                       rotate_left
                       ·simp only [Act.put, sA_, sB_, sC_, i64_w, i32_w]
                        rfl
                       refine take_ (i := 13) (N := some 92) (v := ?_) (a' := ?_) L6_19 rfl rfl (take_ofW HT_.out HW_.out (by kernel_rfl)) (fun _ _ _ h => h) (Or.inl ⟨by rfl, ?_⟩) hHeld ?_ ?_
                       rotate_left
                       ·rintro w' ⟨s0, s1, s2, s3, s4⟩
                        go_simp
                        with_reducible rfl
                       rotate_left
                       ·simp only [Act.put, sA_, sB_, sC_, i64_w, i32_w]
                        rfl
                       refine take_ (i := 19) (N := some 98) (v := ?_) (a' := ?_) L6_20 rfl rfl (take_ofW HT_.out HW_.out (by kernel_rfl)) (fun _ _ _ h => h) (Or.inl ⟨by rfl, ?_⟩) hHeld ?_ ?_
                       rotate_left
                       ·rintro w' ⟨s0, s1, s2, s3, s4⟩
                        go_simp
                        with_reducible rfl
                       rotate_left
                       ·simp only [Act.put, sA_, sB_, sC_, i64_w, i32_w]
                        rfl
                       refine one_ (i := 20) (N := some 99) L6_21 rfl rfl (one_of HT_.out (by kernel_rfl)) (by decide) (fun K hK => ?_)
                       refine goes_ Try.func15 (by kernel_rfl) rfl #[.agg #[.slice Ao23 t394.length co23, .slice Ao25 t397.length co25], .agg #[.slice A416_1 ((rd_T41 l0 (ji45)).f1.f0).length c416_1, .slice A416_2 ((rd_T41 l0 (ji45)).f1.f1).length c416_2]] (by rfl) rfl rfl (by (try simp only [List.map_toArray, List.map_cons, List.map_nil]); first | done | (simp only [hji45]; rfl) | rfl | (simp only [List.length_drop, List.length_take]; rfl)) ?_
                       with_reducible refine (fullerref03_Same.calls k3 _ _ t394 _ _ t397 _ _ ((rd_T41 l0 (ji45)).f1.f0) _ _ ((rd_T41 l0 (ji45)).f1.f1) true _ ?side1 ?side2 ?side3 ?side4 ?side5 ?side6 ?side7 ?side8 A48.out).mono ?_
                       (case side1 => repeat (first | exact (Kd.R_reads' HO_402000.out).2.2 | (with_reducible refine Kd.C_alloc ?_ _) | (with_reducible refine Kd.C_drewN ?_ _) | (with_reducible refine Kd.C_drew ?_)))
                       (case side2 => exact (Kd.R_reads' HO_402000.out).2.1)
                       (case side3 => repeat (first | exact (Kd.R_reads' HO_402001.out).2.2 | (with_reducible refine Kd.C_alloc ?_ _) | (with_reducible refine Kd.C_drewN ?_ _) | (with_reducible refine Kd.C_drew ?_)))
                       (case side4 => exact (Kd.R_reads' HO_402001.out).2.1)
                       (case side5 => repeat (first | exact (Kd.C_below HR416_1.out HB.out) | (with_reducible refine Kd.C_alloc ?_ _) | (with_reducible refine Kd.C_drewN ?_ _) | (with_reducible refine Kd.C_drew ?_)))
                       (case side6 => exact HC416_1.out)
                       (case side7 => repeat (first | exact (Kd.C_below HR416_2.out HB.out) | (with_reducible refine Kd.C_alloc ?_ _) | (with_reducible refine Kd.C_drewN ?_ _) | (with_reducible refine Kd.C_drew ?_)))
                       (case side8 => exact HC416_2.out)
                       rintro e w67 ⟨rfl, hb⟩
                       refine ⟨_, rfl, ?_⟩
                       have n0_ := Aside0.mk (Kd.R_below (mvR_ HO_402000.out) hb)
                       have n1_ := Aside0.mk (Kd.R_below (mvR_ HO_402001.out) hb)
                       have n2_ := Aside0.mk (Kd.R_below (mvR_ HO_414000.out) hb)
                       have n3_ := Aside0.mk (Kd.R_below (mvR_ HO_414001.out) hb)
                       have n4_ := Aside0.mk (blk_below (g := gb401) (o := .cells #[.slice Ao23 t394.length co23, .slice Ao25 t397.length co25] 25 (0, 0)) (mvK_ BK401.out) hb)
                       have n5_ := Aside0.mk (blk_below (g := gb413) (o := .cells #[.slice Ao30 t406.length co30, .slice Ao33 t409.length co33] 25 (0, 0)) (mvK_ BK413.out) hb)
                       have n6_ := Aside0.mk (below_step (bq2_ HB.out GE401.out GE413.out) hb)
                       clear HO_402000 HO_402001 HO_414000 HO_414001 BK401 BK413 HB
                       have HO_402000 := n0_
                       have HO_402001 := n1_
                       have HO_414000 := n2_
                       have HO_414001 := n3_
                       have BK401 := n4_
                       have BK413 := n5_
                       have HB := n6_
                       clear n0_ n1_ n2_ n3_ n4_ n5_ n6_
                       (try clear hb)
                       (try clear hb2)
                       (try clear hk)
                       (try clear hi)
                       refine hK.out _ _ ⟨(blk_cell BK401.out 0).trans rfl, (blk_cell BK401.out 1).trans rfl, ((HB.out.cell (World.block_lt_of_cell? w _ hw416_0)).trans hw416_0), ((HB.out.cell (World.block_lt_of_cell? w _ hw416_1)).trans hw416_1), ((HB.out.cell (World.block_lt_of_cell? w _ hw416_2)).trans hw416_2)⟩ (fun hHeld => ?_)
                       clear hK K
                       refine norm_ (a' := ?_) ?_ ?_
                       rotate_left
                       ·show Act.put _ (some 99) _ = _
                        simp only [Act.put, sA_, sB_, sC_, i64_w, i32_w]
                        rfl
                       refine pure_ (i := 21) (N := some 100) (v := ?_) (a' := ?_) L6_22 rfl rfl (any_of HT_.out (by kernel_rfl)) (fun _ _ _ h => h) (Or.inl ⟨by rfl, ?_⟩) ?_ ?_
                       rotate_left
                       ·intro w'
                        go_simp
                        with_reducible rfl
                       rotate_left
                       ·simp only [Act.put, sA_, sB_, sC_, i64_w, i32_w]
                        rfl
                       refine pure_ (i := 22) (N := some 101) (v := ?_) (a' := ?_) L6_23 rfl rfl (any_of HT_.out (by kernel_rfl)) (fun _ _ _ h => h) (Or.inl ⟨by rfl, ?_⟩) ?_ ?_
                       rotate_left
                       ·intro w'
                        go_simp
                        with_reducible rfl
                       rotate_left
                       ·simp only [Act.put, sA_, sB_, sC_, i64_w, i32_w]
                        rfl
                       refine pure_ (i := 23) (N := some 16) (v := ?_) (a' := ?_) L6_24 rfl rfl (any_of HT_.out (by kernel_rfl)) (fun _ _ _ h => h) (Or.inl ⟨by rfl, ?_⟩) ?_ ?_
                       rotate_left
                       ·intro w'
                        go_simp
                        with_reducible rfl
                       rotate_left
                       ·simp only [Act.put, sA_, sB_, sC_, i64_w, i32_w]
                        rfl
                       refine done_ (done_of HT_.out (by kernel_rfl)) ?_
                       have q68 : (ji16 : Int) ≤ ((l0.length : Int) : Int) := of_decide_eq_true (by first | (with_reducible assumption) | assumption)
                       obtain ⟨i068, hi068, _, hsz68, _⟩ := info_parts info41
                       have hroom68 : l0.length ≤ c0 := HC0.out
                       have hC68 : Kd.C k41 _ (some ad416) l0.length l0 := HR0.out
                       (try clear hcut27)
                       have hcut68 := cut_to (P := Try.prog) 22 41 .i64 Try.underlying22 hi068 (some ad416) l0.length c0 ji16 (of_decide_eq_true (by first | (with_reducible assumption) | assumption)) q68 hroom68
                       have hr68 := Kd.C_take (m := (ji16 : Int).toNat) hC68 (by omega)
                       have hy68 : y418.length = (ji16 : Int).toNat := (by rw [Ny418.out, List.length_take]; omega)
                       rw [← Ny418.out] at hr68
                       rw [← hy68] at hcut68
                       have HR421 := Aside0.mk hr68
                       have HC421 := Aside0.mk (show y418.length ≤ c0 from by omega)
                       clear hr68 hC68 hroom68 hi068 hsz68
                       have KY68 := Aside0.mk hy68
                       clear hy68
                       replace q68 := eq_true q68
                       try go_wp2_with (first | (go_at_call 17; (with_reducible refine (chain_Check.calls k3 _ _ y418 true _ ?side1 ?side2 A52.out).mono ?_); (case side1 => repeat (first | exact (Kd.C_below HR421.out HB.out) | (with_reducible refine Kd.C_alloc ?_ _) | (with_reducible refine Kd.C_drewN ?_ _) | (with_reducible refine Kd.C_drew ?_))); (case side2 => exact HC421.out); rintro e w69 ⟨rfl, hb⟩; have n0_ := Aside0.mk (Kd.R_below (mvR_ HO_402000.out) hb); have n1_ := Aside0.mk (Kd.R_below (mvR_ HO_402001.out) hb); have n2_ := Aside0.mk (Kd.R_below (mvR_ HO_414000.out) hb); have n3_ := Aside0.mk (Kd.R_below (mvR_ HO_414001.out) hb); have n4_ := Aside0.mk (blk_below (g := gb401) (o := .cells #[.slice Ao23 t394.length co23, .slice Ao25 t397.length co25] 25 (0, 0)) (mvK_ BK401.out) hb); have n5_ := Aside0.mk (blk_below (g := gb413) (o := .cells #[.slice Ao30 t406.length co30, .slice Ao33 t409.length co33] 25 (0, 0)) (mvK_ BK413.out) hb); have n6_ := Aside0.mk (below_step (bq2_ HB.out GE401.out GE413.out) hb); clear HO_402000; clear HO_402001; clear HO_414000; clear HO_414001; clear BK401; clear BK413; clear HB; have HO_402000 := n0_; have HO_402001 := n1_; have HO_414000 := n2_; have HO_414001 := n3_; have BK401 := n4_; have BK413 := n5_; have HB := n6_; clear n0_ n1_ n2_ n3_ n4_ n5_ n6_; (try clear hb); (try clear hb2); (try clear hk); (try clear hi)))
                       go_ret
                       exact ⟨by first | rfl | (simp [errW_none, errW_some] <;> rfl) | (simp only [← hji16, ← hji45]; first | rfl | (simp [errW_none, errW_some] <;> rfl)) | (simp [*, errW_none, errW_some] <;> rfl), by repeat (first | (with_reducible first | exact HB.out | apply below_alloc | apply pw_below_drewN | apply below_drew1 | refine below_set ?_ GE401.out | refine below_set ?_ GE413.out) | exact HB.out)⟩
                     ·replace c54 := Bool.eq_false_iff.mpr c54
                      subst c54
                      have H1 : (none) = some r := by rw [if_neg (show ¬ (false = true) by decide)] at H; exact H
                      clear H
                      have H := H1
                      clear H1
                      exact absurd H (by simp)
                    ·replace c53 := Bool.eq_false_iff.mpr c53
                     subst c53
                     have H1 : (none) = some r := by rw [if_neg (show ¬ (false = true) by decide)] at H; exact H
                     clear H
                     have H := H1
                     clear H1
                     exact absurd H (by simp)
                   ·rw [if_neg c51] at H
                    exact absurd H (by simp)
                  ·rw [if_neg c50] at H
                   exact absurd H (by simp)
                 ·replace c49 := Bool.eq_false_iff.mpr c49
                  subst c49
                  have H1 : (none) = some r := by rw [if_neg (show ¬ (false = true) by decide)] at H; exact H
                  clear H
                  have H := H1
                  clear H1
                  exact absurd H (by simp)
                ·rw [if_neg c47] at H
                 exact absurd H (by simp)
               ·rw [if_neg c46] at H
                exact absurd H (by simp)
              ·rw [if_neg c44] at H
               exact absurd H (by simp)
             ·replace c43 := Bool.eq_false_iff.mpr c43
              subst c43
              have H1 : (if t391 = true then (if 0 ≤ ji16 then (if ji16 ≤ (l0.length : Int) then ((chain_Check.f k3 (l0.take (ji16 : Int).toNat)).bind fun t428 => (if t428 = true then (if x13_19 = true then (if (false == t412) = true then ((fullerref03_Same.f k3 t394 t397 t406 t409).bind fun t429 => (some t429)) else (none)) else (some true)) else (none))) else (none)) else (none)) else (none)) = some r := by rw [if_neg (show ¬ (false = true) by decide)] at H; exact H
              clear H
              have H := H1
              clear H1
              by_cases c70 : t391 = true
              ·subst c70
               have H1 : (if 0 ≤ ji16 then (if ji16 ≤ (l0.length : Int) then ((chain_Check.f k3 (l0.take (ji16 : Int).toNat)).bind fun t428 => (if t428 = true then (if x13_19 = true then (if (false == t412) = true then ((fullerref03_Same.f k3 t394 t397 t406 t409).bind fun t429 => (some t429)) else (none)) else (some true)) else (none))) else (none)) else (none)) = some r := by rw [if_pos rfl] at H; exact H
               clear H
               have H := H1
               clear H1
               by_cases c71 : 0 ≤ ji16
               ·rw [if_pos c71] at H
                have c71b0 := eq_true c71
                have c71b1 : decide (0 ≤ ji16) = true := decide_eq_true c71
                clear c71
                by_cases c72 : ji16 ≤ (l0.length : Int)
                ·rw [if_pos c72] at H
                 have c72b0 := eq_true c72
                 have c72b1 : decide (ji16 ≤ (l0.length : Int)) = true := decide_eq_true c72
                 clear c72
                 obtain ⟨y424, hy424⟩ : ∃ y_ : List (S41), y_ = (l0.take (ji16 : Int).toNat) := ⟨_, rfl⟩
                 replace H : ((chain_Check.f k3 y424).bind fun t428 => (if t428 = true then (if x13_19 = true then (if (false == t412) = true then ((fullerref03_Same.f k3 t394 t397 t406 t409).bind fun t429 => (some t429)) else (none)) else (some true)) else (none))) = some r := by first | (rw [hy424]; with_reducible exact H) | (have H2_ := (Option.bind_some _ _).symm.trans H; rw [hy424]; with_reducible exact H2_) | (have H2_ := (Option.bind_some _ _).symm.trans H; with_reducible exact H2_) | with_reducible exact H | (rw [hy424]; exact H) | exact H
                 have Ny424 := Aside0.mk hy424
                 clear hy424
                 replace H := Option.bind_eq_some_iff.mp H
                 obtain ⟨t428, A730, H⟩ := H
                 replace H : (if t428 = true then (if x13_19 = true then (if (false == t412) = true then ((fullerref03_Same.f k3 t394 t397 t406 t409).bind fun t429 => (some t429)) else (none)) else (some true)) else (none)) = some r := H
                 have A73 := Aside0.mk A730
                 clear A730
                 by_cases c74 : t428 = true
                 ·subst c74
                  have H1 : (if x13_19 = true then (if (false == t412) = true then ((fullerref03_Same.f k3 t394 t397 t406 t409).bind fun t429 => (some t429)) else (none)) else (some true)) = some r := by rw [if_pos rfl] at H; exact H
                  clear H
                  have H := H1
                  clear H1
                  by_cases c75 : x13_19 = true
                  ·subst c75
                   have H1 : (if (false == t412) = true then ((fullerref03_Same.f k3 t394 t397 t406 t409).bind fun t429 => (some t429)) else (none)) = some r := by rw [if_pos rfl] at H; exact H
                   clear H
                   have H := H1
                   clear H1
                   by_cases c76 : (false == t412) = true
                   ·rw [if_pos c76] at H
                    have c76b0 : (false == t412) = true := c76
                    (try (have c76b1 : decide (false = t412) = true := by simpa using c76))
                    (try (have c76b2 : (false == t412) = true := by simpa using c76))
                    clear c76
                    replace H := Option.bind_eq_some_iff.mp H
                    obtain ⟨t429, A770, H⟩ := H
                    replace H : (some t429) = some r := H
                    have A77 := Aside0.mk A770
                    clear A770
                    obtain rfl := Option.some.inj H
                    try go_wp2
                    have n0_ := Aside0.mk (Kd.R_drew HO_402000.out)
                    have n1_ := Aside0.mk (Kd.R_drew HO_402001.out)
                    have n2_ := Aside0.mk (Kd.R_drew HO_414000.out)
                    have n3_ := Aside0.mk (Kd.R_drew HO_414001.out)
                    have n4_ := Aside0.mk (blk_drew BK401.out)
                    have n5_ := Aside0.mk (blk_drew BK413.out)
                    have n6_ := Aside0.mk (below_drew1 HB.out)
                    clear HO_402000 HO_402001 HO_414000 HO_414001 BK401 BK413 HB
                    have HO_402000 := n0_
                    have HO_402001 := n1_
                    have HO_414000 := n2_
                    have HO_414001 := n3_
                    have BK401 := n4_
                    have BK413 := n5_
                    have HB := n6_
                    clear n0_ n1_ n2_ n3_ n4_ n5_ n6_
                    refine start_ (n := 24) (S := fun w' => True) (ds := []) L6_0 (by kernel_rfl) rfl rfl trivial (fun hHeld => ?_); refine with_tabW fullerlaw17_ChainCuts.tab14 fullerlaw17_ChainCuts.bits14 (fun HT_ HW_ => ?_)
                    generalize wr.drew = w78 at HO_402000 HO_402001 HO_414000 HO_414001 BK401 BK413 HB hHeld ⊢
                    refine pure_ (i := 0) (N := some 79) (v := ?_) (a' := ?_) L6_1 rfl rfl (any_of HT_.out (by kernel_rfl)) (fun _ _ _ h => h) (Or.inl ⟨by rfl, ?_⟩) ?_ ?_
                    rotate_left
                    ·intro w'
                     go_simp
                     with_reducible rfl
                    rotate_left
                    ·simp only [Act.put, sA_, sB_, sC_, i64_w, i32_w]
                     rfl
                    refine pure_ (i := 1) (N := some 80) (v := ?_) (a' := ?_) L6_2 rfl rfl (any_of HT_.out (by kernel_rfl)) (fun _ _ _ h => h) (Or.inl ⟨by rfl, ?_⟩) ?_ ?_
                    rotate_left
                    ·intro w'
                     go_simp
                     with_reducible rfl
                    rotate_left
                    ·simp only [Act.put, sA_, sB_, sC_, i64_w, i32_w]
                     rfl
                    refine pure_ (i := 2) (N := some 81) (v := ?_) (a' := ?_) L6_3 rfl rfl (any_of HT_.out (by kernel_rfl)) (fun _ _ _ h => h) (Or.inl ⟨by rfl, ?_⟩) ?_ ?_
                    rotate_left
                    ·intro w'
                     go_simp
                     with_reducible rfl
                    rotate_left
                    ·simp only [Act.put, sA_, sB_, sC_, i64_w, i32_w]
                     rfl
                    refine pure_ (i := 3) (N := some 82) (v := ?_) (a' := ?_) L6_4 rfl rfl (any_of HT_.out (by kernel_rfl)) (fun _ _ _ h => h) (Or.inl ⟨by rfl, ?_⟩) ?_ ?_
                    rotate_left
                    ·intro w'
                     go_simp
                     with_reducible rfl
                    rotate_left
                    ·simp only [Act.put, sA_, sB_, sC_, i64_w, i32_w]
                     rfl
                    refine pure_ (i := 4) (N := some 83) (v := ?_) (a' := ?_) L6_5 rfl rfl (any_of HT_.out (by kernel_rfl)) (fun _ _ _ h => h) (Or.inl ⟨by rfl, ?_⟩) ?_ ?_
                    rotate_left
                    ·intro w'
                     go_simp
                     with_reducible rfl
                    rotate_left
                    ·simp only [Act.put, sA_, sB_, sC_, i64_w, i32_w]
                     rfl
                    refine pure_ (i := 5) (N := some 84) (v := ?_) (a' := ?_) L6_6 rfl rfl (any_of HT_.out (by kernel_rfl)) (fun _ _ _ h => h) (Or.inl ⟨by rfl, ?_⟩) ?_ ?_
                    rotate_left
                    ·intro w'
                     go_simp
                     with_reducible rfl
                    rotate_left
                    ·simp only [Act.put, sA_, sB_, sC_, i64_w, i32_w]
                     rfl
                    refine pure_ (i := 6) (N := some 85) (v := ?_) (a' := ?_) L6_7 rfl rfl (any_of HT_.out (by kernel_rfl)) (fun _ _ _ h => h) (Or.inl ⟨by rfl, ?_⟩) ?_ ?_
                    rotate_left
                    ·intro w'
                     go_simp
                     with_reducible rfl
                    rotate_left
                    ·simp only [Act.put, sA_, sB_, sC_, i64_w, i32_w]
                     rfl
                    refine skips_ (fuel := 2) (m := 17) HT_.out (fun _ _ _ _ _ h => h) [(7, 86), (8, 87), (9, 88), (10, 89), (11, 90), (12, 91), (13, 92), (14, 93), (15, 94), (16, 95), (17, 96), (18, 97), (19, 98), (20, 99), (21, 100)] L6_22 rfl (by kernel_rfl) (by kernel_rfl) (a' := ?_) ?_ ?_
                    rotate_left
                    ·simp only [putU, Act.put, sA_, sB_, sC_]
                     rfl
                    refine pure_ (i := 22) (N := some 101) (v := ?_) (a' := ?_) L6_23 rfl rfl (any_of HT_.out (by kernel_rfl)) (fun _ _ _ h => h) (Or.inl ⟨by rfl, ?_⟩) ?_ ?_
                    rotate_left
                    ·intro w'
                     go_simp
                     with_reducible rfl
                    rotate_left
                    ·simp only [Act.put, sA_, sB_, sC_, i64_w, i32_w]
                     rfl
                    refine pure_ (i := 23) (N := some 16) (v := ?_) (a' := ?_) L6_24 rfl rfl (any_of HT_.out (by kernel_rfl)) (fun _ _ _ h => h) (Or.inl ⟨by rfl, ?_⟩) ?_ ?_
                    rotate_left
                    ·intro w'
                     go_simp
                     with_reducible rfl
                    rotate_left
                    ·simp only [Act.put, sA_, sB_, sC_, i64_w, i32_w]
                     rfl
                    refine done_ (done_of HT_.out (by kernel_rfl)) ?_
                    have q79 : (ji16 : Int) ≤ ((l0.length : Int) : Int) := of_decide_eq_true (by first | (with_reducible assumption) | assumption)
                    obtain ⟨i079, hi079, _, hsz79, _⟩ := info_parts info41
                    have hroom79 : l0.length ≤ c0 := HC0.out
                    have hC79 : Kd.C k41 _ A0 l0.length l0 := HR0.out
                    (try clear hcut27)
                    have hcut79 := cut_to (P := Try.prog) 22 41 .i64 Try.underlying22 hi079 A0 l0.length c0 ji16 (of_decide_eq_true (by first | (with_reducible assumption) | assumption)) q79 hroom79
                    have hr79 := Kd.C_take (m := (ji16 : Int).toNat) hC79 (by omega)
                    have hy79 : y424.length = (ji16 : Int).toNat := (by rw [Ny424.out, List.length_take]; omega)
                    rw [← Ny424.out] at hr79
                    rw [← hy79] at hcut79
                    have HR427 := Aside0.mk hr79
                    have HC427 := Aside0.mk (show y424.length ≤ c0 from by omega)
                    clear hr79 hC79 hroom79 hi079 hsz79
                    have KY79 := Aside0.mk hy79
                    clear hy79
                    replace q79 := eq_true q79
                    try go_wp2_with (first | (go_at_call 17; (with_reducible refine (chain_Check.calls k3 _ _ y424 true _ ?side1 ?side2 A73.out).mono ?_); (case side1 => repeat (first | exact (Kd.C_below HR427.out HB.out) | (with_reducible refine Kd.C_alloc ?_ _) | (with_reducible refine Kd.C_drewN ?_ _) | (with_reducible refine Kd.C_drew ?_))); (case side2 => exact HC427.out); rintro e w80 ⟨rfl, hb⟩; have n0_ := Aside0.mk (Kd.R_below (mvR_ HO_402000.out) hb); have n1_ := Aside0.mk (Kd.R_below (mvR_ HO_402001.out) hb); have n2_ := Aside0.mk (Kd.R_below (mvR_ HO_414000.out) hb); have n3_ := Aside0.mk (Kd.R_below (mvR_ HO_414001.out) hb); have n4_ := Aside0.mk (blk_below (g := gb401) (o := .cells #[.slice Ao23 t394.length co23, .slice Ao25 t397.length co25] 25 (0, 0)) (mvK_ BK401.out) hb); have n5_ := Aside0.mk (blk_below (g := gb413) (o := .cells #[.slice Ao30 t406.length co30, .slice Ao33 t409.length co33] 25 (0, 0)) (mvK_ BK413.out) hb); have n6_ := Aside0.mk (below_step (bq2_ HB.out GE401.out GE413.out) hb); clear HO_402000; clear HO_402001; clear HO_414000; clear HO_414001; clear BK401; clear BK413; clear HB; have HO_402000 := n0_; have HO_402001 := n1_; have HO_414000 := n2_; have HO_414001 := n3_; have BK401 := n4_; have BK413 := n5_; have HB := n6_; clear n0_ n1_ n2_ n3_ n4_ n5_ n6_; (try clear hb); (try clear hb2); (try clear hk); (try clear hi); have hnb81 := NB401_413.out; have hnc81 := NB413_401.out; have hcz82_0 : w80.cell? ⟨gb401, 0, none⟩ = some (.slice Ao23 t394.length co23) := (blk_cell BK401.out 0).trans rfl; have hcz82_1 : w80.cell? ⟨gb401, 1, none⟩ = some (.slice Ao25 t397.length co25) := (blk_cell BK401.out 1).trans rfl; have hfz82_0 := blk_frozen BK401.out 0; have hfz82_1 := blk_frozen BK401.out 1; have hcz83_0 : w80.cell? ⟨gb413, 0, none⟩ = some (.slice Ao30 t406.length co30) := (blk_cell BK413.out 0).trans rfl; have hcz83_1 : w80.cell? ⟨gb413, 1, none⟩ = some (.slice Ao33 t409.length co33) := (blk_cell BK413.out 1).trans rfl; have hfz83_0 := blk_frozen BK413.out 0; have hfz83_1 := blk_frozen BK413.out 1) | (go_at_call 15; (with_reducible refine (fullerref03_Same.calls k3 _ _ t394 _ _ t397 _ _ t406 _ _ t409 t429 _ ?side1 ?side2 ?side3 ?side4 ?side5 ?side6 ?side7 ?side8 A77.out).mono ?_); (case side1 => repeat (first | exact (Kd.R_reads' HO_402000.out).2.2 | (with_reducible refine Kd.C_alloc ?_ _) | (with_reducible refine Kd.C_drewN ?_ _) | (with_reducible refine Kd.C_drew ?_))); (case side2 => exact (Kd.R_reads' HO_402000.out).2.1); (case side3 => repeat (first | exact (Kd.R_reads' HO_402001.out).2.2 | (with_reducible refine Kd.C_alloc ?_ _) | (with_reducible refine Kd.C_drewN ?_ _) | (with_reducible refine Kd.C_drew ?_))); (case side4 => exact (Kd.R_reads' HO_402001.out).2.1); (case side5 => repeat (first | exact (Kd.R_reads' HO_414000.out).2.2 | (with_reducible refine Kd.C_alloc ?_ _) | (with_reducible refine Kd.C_drewN ?_ _) | (with_reducible refine Kd.C_drew ?_))); (case side6 => exact (Kd.R_reads' HO_414000.out).2.1); (case side7 => repeat (first | exact (Kd.R_reads' HO_414001.out).2.2 | (with_reducible refine Kd.C_alloc ?_ _) | (with_reducible refine Kd.C_drewN ?_ _) | (with_reducible refine Kd.C_drew ?_))); (case side8 => exact (Kd.R_reads' HO_414001.out).2.1); rintro e w84 ⟨rfl, hb⟩; have n0_ := Aside0.mk (Kd.R_below (mvR_ HO_402000.out) hb); have n1_ := Aside0.mk (Kd.R_below (mvR_ HO_402001.out) hb); have n2_ := Aside0.mk (Kd.R_below (mvR_ HO_414000.out) hb); have n3_ := Aside0.mk (Kd.R_below (mvR_ HO_414001.out) hb); have n4_ := Aside0.mk (blk_below (g := gb401) (o := .cells #[.slice Ao23 t394.length co23, .slice Ao25 t397.length co25] 25 (0, 0)) (mvK_ BK401.out) hb); have n5_ := Aside0.mk (blk_below (g := gb413) (o := .cells #[.slice Ao30 t406.length co30, .slice Ao33 t409.length co33] 25 (0, 0)) (mvK_ BK413.out) hb); have n6_ := Aside0.mk (below_step (bq2_ HB.out GE401.out GE413.out) hb); clear HO_402000; clear HO_402001; clear HO_414000; clear HO_414001; clear BK401; clear BK413; clear HB; have HO_402000 := n0_; have HO_402001 := n1_; have HO_414000 := n2_; have HO_414001 := n3_; have BK401 := n4_; have BK413 := n5_; have HB := n6_; clear n0_ n1_ n2_ n3_ n4_ n5_ n6_; (try clear hb); (try clear hb2); (try clear hk); (try clear hi)))
                    go_ret
                    exact ⟨by first | rfl | (simp [errW_none, errW_some] <;> rfl) | (simp only [← hji16]; first | rfl | (simp [errW_none, errW_some] <;> rfl)) | (simp [*, errW_none, errW_some] <;> rfl), by repeat (first | (with_reducible first | exact HB.out | apply below_alloc | apply pw_below_drewN | apply below_drew1 | refine below_set ?_ GE401.out | refine below_set ?_ GE413.out) | exact HB.out)⟩
                   ·rw [if_neg c76] at H
                    exact absurd H (by simp)
                  ·replace c75 := Bool.eq_false_iff.mpr c75
                   subst c75
                   have H1 : (some true) = some r := by rw [if_neg (show ¬ (false = true) by decide)] at H; exact H
                   clear H
                   have H := H1
                   clear H1
                   obtain rfl := Option.some.inj H
                   try go_wp2
                   have n0_ := Aside0.mk (Kd.R_drew HO_402000.out)
                   have n1_ := Aside0.mk (Kd.R_drew HO_402001.out)
                   have n2_ := Aside0.mk (Kd.R_drew HO_414000.out)
                   have n3_ := Aside0.mk (Kd.R_drew HO_414001.out)
                   have n4_ := Aside0.mk (blk_drew BK401.out)
                   have n5_ := Aside0.mk (blk_drew BK413.out)
                   have n6_ := Aside0.mk (below_drew1 HB.out)
                   clear HO_402000 HO_402001 HO_414000 HO_414001 BK401 BK413 HB
                   have HO_402000 := n0_
                   have HO_402001 := n1_
                   have HO_414000 := n2_
                   have HO_414001 := n3_
                   have BK401 := n4_
                   have BK413 := n5_
                   have HB := n6_
                   clear n0_ n1_ n2_ n3_ n4_ n5_ n6_
                   refine start_ (n := 24) (S := fun w' => True) (ds := []) L6_0 (by kernel_rfl) rfl rfl trivial (fun hHeld => ?_); refine with_tabW fullerlaw17_ChainCuts.tab14 fullerlaw17_ChainCuts.bits14 (fun HT_ HW_ => ?_)
                   generalize wr.drew = w85 at HO_402000 HO_402001 HO_414000 HO_414001 BK401 BK413 HB hHeld ⊢
                   refine pure_ (i := 0) (N := some 79) (v := ?_) (a' := ?_) L6_1 rfl rfl (any_of HT_.out (by kernel_rfl)) (fun _ _ _ h => h) (Or.inl ⟨by rfl, ?_⟩) ?_ ?_
                   rotate_left
                   ·intro w'
                    go_simp
                    with_reducible rfl
                   rotate_left
                   ·simp only [Act.put, sA_, sB_, sC_, i64_w, i32_w]
                    rfl
                   refine pure_ (i := 1) (N := some 80) (v := ?_) (a' := ?_) L6_2 rfl rfl (any_of HT_.out (by kernel_rfl)) (fun _ _ _ h => h) (Or.inl ⟨by rfl, ?_⟩) ?_ ?_
                   rotate_left
                   ·intro w'
                    go_simp
                    with_reducible rfl
                   rotate_left
                   ·simp only [Act.put, sA_, sB_, sC_, i64_w, i32_w]
                    rfl
                   refine pure_ (i := 2) (N := some 81) (v := ?_) (a' := ?_) L6_3 rfl rfl (any_of HT_.out (by kernel_rfl)) (fun _ _ _ h => h) (Or.inl ⟨by rfl, ?_⟩) ?_ ?_
                   rotate_left
                   ·intro w'
                    go_simp
                    with_reducible rfl
                   rotate_left
                   ·simp only [Act.put, sA_, sB_, sC_, i64_w, i32_w]
                    rfl
                   refine pure_ (i := 3) (N := some 82) (v := ?_) (a' := ?_) L6_4 rfl rfl (any_of HT_.out (by kernel_rfl)) (fun _ _ _ h => h) (Or.inl ⟨by rfl, ?_⟩) ?_ ?_
                   rotate_left
                   ·intro w'
                    go_simp
                    with_reducible rfl
                   rotate_left
                   ·simp only [Act.put, sA_, sB_, sC_, i64_w, i32_w]
                    rfl
                   refine pure_ (i := 4) (N := some 83) (v := ?_) (a' := ?_) L6_5 rfl rfl (any_of HT_.out (by kernel_rfl)) (fun _ _ _ h => h) (Or.inl ⟨by rfl, ?_⟩) ?_ ?_
                   rotate_left
                   ·intro w'
                    go_simp
                    with_reducible rfl
                   rotate_left
                   ·simp only [Act.put, sA_, sB_, sC_, i64_w, i32_w]
                    rfl
                   refine pure_ (i := 5) (N := some 84) (v := ?_) (a' := ?_) L6_6 rfl rfl (any_of HT_.out (by kernel_rfl)) (fun _ _ _ h => h) (Or.inl ⟨by rfl, ?_⟩) ?_ ?_
                   rotate_left
                   ·intro w'
                    go_simp
                    with_reducible rfl
                   rotate_left
                   ·simp only [Act.put, sA_, sB_, sC_, i64_w, i32_w]
                    rfl
                   refine pure_ (i := 6) (N := some 85) (v := ?_) (a' := ?_) L6_7 rfl rfl (any_of HT_.out (by kernel_rfl)) (fun _ _ _ h => h) (Or.inl ⟨by rfl, ?_⟩) ?_ ?_
                   rotate_left
                   ·intro w'
                    go_simp
                    with_reducible rfl
                   rotate_left
                   ·simp only [Act.put, sA_, sB_, sC_, i64_w, i32_w]
                    rfl
                   refine skips_ (fuel := 2) (m := 17) HT_.out (fun _ _ _ _ _ h => h) [(7, 86), (8, 87), (9, 88), (10, 89), (11, 90), (12, 91), (13, 92), (14, 93), (15, 94), (16, 95), (17, 96), (18, 97), (19, 98), (20, 99), (21, 100)] L6_22 rfl (by kernel_rfl) (by kernel_rfl) (a' := ?_) ?_ ?_
                   rotate_left
                   ·simp only [putU, Act.put, sA_, sB_, sC_]
                    rfl
                   refine pure_ (i := 22) (N := some 101) (v := ?_) (a' := ?_) L6_23 rfl rfl (any_of HT_.out (by kernel_rfl)) (fun _ _ _ h => h) (Or.inl ⟨by rfl, ?_⟩) ?_ ?_
                   rotate_left
                   ·intro w'
                    go_simp
                    with_reducible rfl
                   rotate_left
                   ·simp only [Act.put, sA_, sB_, sC_, i64_w, i32_w]
                    rfl
                   refine pure_ (i := 23) (N := some 16) (v := ?_) (a' := ?_) L6_24 rfl rfl (any_of HT_.out (by kernel_rfl)) (fun _ _ _ h => h) (Or.inl ⟨by rfl, ?_⟩) ?_ ?_
                   rotate_left
                   ·intro w'
                    go_simp
                    with_reducible rfl
                   rotate_left
                   ·simp only [Act.put, sA_, sB_, sC_, i64_w, i32_w]
                    rfl
                   refine done_ (done_of HT_.out (by kernel_rfl)) ?_
                   have q86 : (ji16 : Int) ≤ ((l0.length : Int) : Int) := of_decide_eq_true (by first | (with_reducible assumption) | assumption)
                   obtain ⟨i086, hi086, _, hsz86, _⟩ := info_parts info41
                   have hroom86 : l0.length ≤ c0 := HC0.out
                   have hC86 : Kd.C k41 _ A0 l0.length l0 := HR0.out
                   (try clear hcut27)
                   have hcut86 := cut_to (P := Try.prog) 22 41 .i64 Try.underlying22 hi086 A0 l0.length c0 ji16 (of_decide_eq_true (by first | (with_reducible assumption) | assumption)) q86 hroom86
                   have hr86 := Kd.C_take (m := (ji16 : Int).toNat) hC86 (by omega)
                   have hy86 : y424.length = (ji16 : Int).toNat := (by rw [Ny424.out, List.length_take]; omega)
                   rw [← Ny424.out] at hr86
                   rw [← hy86] at hcut86
                   have HR427 := Aside0.mk hr86
                   have HC427 := Aside0.mk (show y424.length ≤ c0 from by omega)
                   clear hr86 hC86 hroom86 hi086 hsz86
                   have KY86 := Aside0.mk hy86
                   clear hy86
                   replace q86 := eq_true q86
                   try go_wp2_with (first | (go_at_call 17; (with_reducible refine (chain_Check.calls k3 _ _ y424 true _ ?side1 ?side2 A73.out).mono ?_); (case side1 => repeat (first | exact (Kd.C_below HR427.out HB.out) | (with_reducible refine Kd.C_alloc ?_ _) | (with_reducible refine Kd.C_drewN ?_ _) | (with_reducible refine Kd.C_drew ?_))); (case side2 => exact HC427.out); rintro e w87 ⟨rfl, hb⟩; have n0_ := Aside0.mk (Kd.R_below (mvR_ HO_402000.out) hb); have n1_ := Aside0.mk (Kd.R_below (mvR_ HO_402001.out) hb); have n2_ := Aside0.mk (Kd.R_below (mvR_ HO_414000.out) hb); have n3_ := Aside0.mk (Kd.R_below (mvR_ HO_414001.out) hb); have n4_ := Aside0.mk (blk_below (g := gb401) (o := .cells #[.slice Ao23 t394.length co23, .slice Ao25 t397.length co25] 25 (0, 0)) (mvK_ BK401.out) hb); have n5_ := Aside0.mk (blk_below (g := gb413) (o := .cells #[.slice Ao30 t406.length co30, .slice Ao33 t409.length co33] 25 (0, 0)) (mvK_ BK413.out) hb); have n6_ := Aside0.mk (below_step (bq2_ HB.out GE401.out GE413.out) hb); clear HO_402000; clear HO_402001; clear HO_414000; clear HO_414001; clear BK401; clear BK413; clear HB; have HO_402000 := n0_; have HO_402001 := n1_; have HO_414000 := n2_; have HO_414001 := n3_; have BK401 := n4_; have BK413 := n5_; have HB := n6_; clear n0_ n1_ n2_ n3_ n4_ n5_ n6_; (try clear hb); (try clear hb2); (try clear hk); (try clear hi)))
                   go_ret
                   exact ⟨by first | rfl | (simp [errW_none, errW_some] <;> rfl) | (simp only [← hji16]; first | rfl | (simp [errW_none, errW_some] <;> rfl)) | (simp [*, errW_none, errW_some] <;> rfl), by repeat (first | (with_reducible first | exact HB.out | apply below_alloc | apply pw_below_drewN | apply below_drew1 | refine below_set ?_ GE401.out | refine below_set ?_ GE413.out) | exact HB.out)⟩
                 ·replace c74 := Bool.eq_false_iff.mpr c74
                  subst c74
                  have H1 : (none) = some r := by rw [if_neg (show ¬ (false = true) by decide)] at H; exact H
                  clear H
                  have H := H1
                  clear H1
                  exact absurd H (by simp)
                ·rw [if_neg c72] at H
                 exact absurd H (by simp)
               ·rw [if_neg c71] at H
                exact absurd H (by simp)
              ·replace c70 := Bool.eq_false_iff.mpr c70
               subst c70
               have H1 : (none) = some r := by rw [if_neg (show ¬ (false = true) by decide)] at H; exact H
               clear H
               have H := H1
               clear H1
               exact absurd H (by simp)
            ·rw [if_neg c42] at H
             have c42b0 : decide (x14_3 < 0) = false := decide_eq_false c42
             clear c42
             by_cases c88 : x14_3 ≥ 0
             ·rw [if_pos c88] at H
              have c88b0 : decide (0 ≤ x14_3) = true := decide_eq_true c88
              clear c88
              by_cases c89 : t400 = true
              ·subst c89
               have H1 : (if 0 ≤ (mx 0 x14_3) then (if (mx 0 x14_3) < (l0.length : Int) then ((fullerref03_Same.f k3 t394 t397 ((rd_T41 l0 (mx 0 x14_3)).f1.f0) ((rd_T41 l0 (mx 0 x14_3)).f1.f1)).bind fun t431 => (if t391 = true then (if 0 ≤ ji16 then (if ji16 ≤ (l0.length : Int) then ((chain_Check.f k3 (l0.take (ji16 : Int).toNat)).bind fun t436 => (if t436 = true then (if t431 = true then (if x13_19 = true then (if (true == t412) = true then ((fullerref03_Same.f k3 t394 t397 t406 t409).bind fun t437 => (some t437)) else (none)) else (some true)) else (none)) else (none))) else (none)) else (none)) else (none))) else (none)) else (none)) = some r := by rw [if_pos rfl] at H; exact H
               clear H
               have H := H1
               clear H1
               obtain ⟨ji90, hji90⟩ : ∃ j_ : Int, (mx 0 x14_3) = j_ := ⟨_, rfl⟩
               replace H : (if 0 ≤ (ji90) then (if (ji90) < (l0.length : Int) then ((fullerref03_Same.f k3 t394 t397 ((rd_T41 l0 (ji90)).f1.f0) ((rd_T41 l0 (ji90)).f1.f1)).bind fun t431 => (if t391 = true then (if 0 ≤ ji16 then (if ji16 ≤ (l0.length : Int) then ((chain_Check.f k3 (l0.take (ji16 : Int).toNat)).bind fun t436 => (if t436 = true then (if t431 = true then (if x13_19 = true then (if (true == t412) = true then ((fullerref03_Same.f k3 t394 t397 t406 t409).bind fun t437 => (some t437)) else (none)) else (some true)) else (none)) else (none))) else (none)) else (none)) else (none))) else (none)) else (none)) = some r := by first | (rw [hji90] at H; exact H) | (simp only [hji90] at H ⊢; exact H)
               have hji90_ : (if 0 < x14_3 then x14_3 else 0) = ji90 := hji90
               by_cases c91 : 0 ≤ (ji90)
               ·rw [if_pos c91] at H
                have c91b0 : decide (0 ≤ (ji90)) = true := decide_eq_true c91
                clear c91
                by_cases c92 : (ji90) < (l0.length : Int)
                ·rw [if_pos c92] at H
                 have c92b0 : decide ((ji90) < (l0.length : Int)) = true := decide_eq_true c92
                 clear c92
                 replace H := Option.bind_eq_some_iff.mp H
                 obtain ⟨t431, A930, H⟩ := H
                 replace H : (if t391 = true then (if 0 ≤ ji16 then (if ji16 ≤ (l0.length : Int) then ((chain_Check.f k3 (l0.take (ji16 : Int).toNat)).bind fun t436 => (if t436 = true then (if t431 = true then (if x13_19 = true then (if (true == t412) = true then ((fullerref03_Same.f k3 t394 t397 t406 t409).bind fun t437 => (some t437)) else (none)) else (some true)) else (none)) else (none))) else (none)) else (none)) else (none)) = some r := H
                 have A93 := Aside0.mk A930
                 clear A930
                 by_cases c94 : t391 = true
                 ·subst c94
                  have H1 : (if 0 ≤ ji16 then (if ji16 ≤ (l0.length : Int) then ((chain_Check.f k3 (l0.take (ji16 : Int).toNat)).bind fun t436 => (if t436 = true then (if t431 = true then (if x13_19 = true then (if (true == t412) = true then ((fullerref03_Same.f k3 t394 t397 t406 t409).bind fun t437 => (some t437)) else (none)) else (some true)) else (none)) else (none))) else (none)) else (none)) = some r := by rw [if_pos rfl] at H; exact H
                  clear H
                  have H := H1
                  clear H1
                  by_cases c95 : 0 ≤ ji16
                  ·rw [if_pos c95] at H
                   have c95b0 := eq_true c95
                   have c95b1 : decide (0 ≤ ji16) = true := decide_eq_true c95
                   clear c95
                   by_cases c96 : ji16 ≤ (l0.length : Int)
                   ·rw [if_pos c96] at H
                    have c96b0 := eq_true c96
                    have c96b1 : decide (ji16 ≤ (l0.length : Int)) = true := decide_eq_true c96
                    clear c96
                    obtain ⟨y432, hy432⟩ : ∃ y_ : List (S41), y_ = (l0.take (ji16 : Int).toNat) := ⟨_, rfl⟩
                    replace H : ((chain_Check.f k3 y432).bind fun t436 => (if t436 = true then (if t431 = true then (if x13_19 = true then (if (true == t412) = true then ((fullerref03_Same.f k3 t394 t397 t406 t409).bind fun t437 => (some t437)) else (none)) else (some true)) else (none)) else (none))) = some r := by first | (rw [hy432]; with_reducible exact H) | (have H2_ := (Option.bind_some _ _).symm.trans H; rw [hy432]; with_reducible exact H2_) | (have H2_ := (Option.bind_some _ _).symm.trans H; with_reducible exact H2_) | with_reducible exact H | (rw [hy432]; exact H) | exact H
                    have Ny432 := Aside0.mk hy432
                    clear hy432
                    replace H := Option.bind_eq_some_iff.mp H
                    obtain ⟨t436, A970, H⟩ := H
                    replace H : (if t436 = true then (if t431 = true then (if x13_19 = true then (if (true == t412) = true then ((fullerref03_Same.f k3 t394 t397 t406 t409).bind fun t437 => (some t437)) else (none)) else (some true)) else (none)) else (none)) = some r := H
                    have A97 := Aside0.mk A970
                    clear A970
                    by_cases c98 : t436 = true
                    ·subst c98
                     have H1 : (if t431 = true then (if x13_19 = true then (if (true == t412) = true then ((fullerref03_Same.f k3 t394 t397 t406 t409).bind fun t437 => (some t437)) else (none)) else (some true)) else (none)) = some r := by rw [if_pos rfl] at H; exact H
                     clear H
                     have H := H1
                     clear H1
                     by_cases c99 : t431 = true
                     ·subst c99
                      have H1 : (if x13_19 = true then (if (true == t412) = true then ((fullerref03_Same.f k3 t394 t397 t406 t409).bind fun t437 => (some t437)) else (none)) else (some true)) = some r := by rw [if_pos rfl] at H; exact H
                      clear H
                      have H := H1
                      clear H1
                      by_cases c100 : x13_19 = true
                      ·subst c100
                       have H1 : (if (true == t412) = true then ((fullerref03_Same.f k3 t394 t397 t406 t409).bind fun t437 => (some t437)) else (none)) = some r := by rw [if_pos rfl] at H; exact H
                       clear H
                       have H := H1
                       clear H1
                       by_cases c101 : (true == t412) = true
                       ·rw [if_pos c101] at H
                        have c101b0 : (true == t412) = true := c101
                        (try (have c101b1 : decide (true = t412) = true := by simpa using c101))
                        (try (have c101b2 : (true == t412) = true := by simpa using c101))
                        clear c101
                        replace H := Option.bind_eq_some_iff.mp H
                        obtain ⟨t437, A1020, H⟩ := H
                        replace H : (some t437) = some r := H
                        have A102 := Aside0.mk A1020
                        clear A1020
                        obtain rfl := Option.some.inj H
                        try go_wp2
                        have n0_ := Aside0.mk (Kd.R_drew HO_402000.out)
                        have n1_ := Aside0.mk (Kd.R_drew HO_402001.out)
                        have n2_ := Aside0.mk (Kd.R_drew HO_414000.out)
                        have n3_ := Aside0.mk (Kd.R_drew HO_414001.out)
                        have n4_ := Aside0.mk (blk_drew BK401.out)
                        have n5_ := Aside0.mk (blk_drew BK413.out)
                        have n6_ := Aside0.mk (below_drew1 HB.out)
                        clear HO_402000 HO_402001 HO_414000 HO_414001 BK401 BK413 HB
                        have HO_402000 := n0_
                        have HO_402001 := n1_
                        have HO_414000 := n2_
                        have HO_414001 := n3_
                        have BK401 := n4_
                        have BK413 := n5_
                        have HB := n6_
                        clear n0_ n1_ n2_ n3_ n4_ n5_ n6_
                        have p430 : 0 ≤ ((ji90) : Int) := of_decide_eq_true (by first | (with_reducible assumption) | assumption)
                        have q430 : (ji90) < (l0.length : Int) := of_decide_eq_true (by first | (with_reducible assumption) | assumption)
                        obtain ⟨ad430, A430_1, c430_1, A430_2, c430_2, e430, hx430_0, hx430_1, hx430_2, hl430_1, hi430_1, hl430_2, hi430_2⟩ := at_T41 HR0.out (ji90) p430 q430
                        have hw430_2 := hx430_2
                        have hw430_1 := hx430_1
                        have hw430_0 := hx430_0
                        cases e430
                        replace hx430_0 := (HB.out.cell (World.block_lt_of_cell? w _ hx430_0)).trans hx430_0
                        replace hx430_1 := (HB.out.cell (World.block_lt_of_cell? w _ hx430_1)).trans hx430_1
                        replace hx430_2 := (HB.out.cell (World.block_lt_of_cell? w _ hx430_2)).trans hx430_2
                        have HR430_1 := Aside0.mk hi430_1
                        have HC430_1 := Aside0.mk hl430_1
                        clear hi430_1 hl430_1
                        have HR430_2 := Aside0.mk hi430_2
                        have HC430_2 := Aside0.mk hl430_2
                        clear hi430_2 hl430_2
                        replace p430 := eq_true p430
                        replace q430 := eq_true q430
                        refine start_ (n := 24) (S := fun w' => w'.cell? ⟨gb401, 0, none⟩ = some (.slice Ao23 t394.length co23) ∧ w'.cell? ⟨gb401, 1, none⟩ = some (.slice Ao25 t397.length co25) ∧ w'.cell? (ad430.add (((ji90)).toNat * 3)) = some (.int .i64 ((rd_T41 l0 (ji90)).f0)) ∧ w'.cell? ⟨(ad430.add (((ji90)).toNat * 3)).block, (ad430.add (((ji90)).toNat * 3)).off + 1, none⟩ = some (.slice A430_1 ((rd_T41 l0 (ji90)).f1.f0).length c430_1) ∧ w'.cell? ⟨(ad430.add (((ji90)).toNat * 3)).block, (ad430.add (((ji90)).toNat * 3)).off + 2, none⟩ = some (.slice A430_2 ((rd_T41 l0 (ji90)).f1.f1).length c430_2)) (ds := []) L6_0 (by kernel_rfl) rfl rfl ⟨(blk_cell BK401.out 0).trans rfl, (blk_cell BK401.out 1).trans rfl, ((HB.out.cell (World.block_lt_of_cell? w _ hw430_0)).trans hw430_0), ((HB.out.cell (World.block_lt_of_cell? w _ hw430_1)).trans hw430_1), ((HB.out.cell (World.block_lt_of_cell? w _ hw430_2)).trans hw430_2)⟩ (fun hHeld => ?_); refine with_tabW fullerlaw17_ChainCuts.tab14 fullerlaw17_ChainCuts.bits14 (fun HT_ HW_ => ?_)
                        generalize wr.drew = w103 at HO_402000 HO_402001 HO_414000 HO_414001 BK401 BK413 HB HR430_1 HR430_2 hx430_0 hx430_1 hx430_2 hHeld ⊢
                        refine pure_ (i := 0) (N := some 79) (v := ?_) (a' := ?_) L6_1 rfl rfl (any_of HT_.out (by kernel_rfl)) (fun _ _ _ h => h) (Or.inl ⟨by rfl, ?_⟩) ?_ ?_
                        rotate_left
                        ·intro w'
                         go_simp
                         with_reducible rfl
                        rotate_left
                        ·simp only [Act.put, sA_, sB_, sC_, i64_w, i32_w]
                         rfl
                        refine pure_ (i := 1) (N := some 80) (v := ?_) (a' := ?_) L6_2 rfl rfl (any_of HT_.out (by kernel_rfl)) (fun _ _ _ h => h) (Or.inl ⟨by rfl, ?_⟩) ?_ ?_
                        rotate_left
                        ·intro w'
                         go_simp
                         with_reducible rfl
                        rotate_left
                        ·simp only [Act.put, sA_, sB_, sC_, i64_w, i32_w]
                         rfl
                        refine pure_ (i := 2) (N := some 81) (v := ?_) (a' := ?_) L6_3 rfl rfl (any_of HT_.out (by kernel_rfl)) (fun _ _ _ h => h) (Or.inl ⟨by rfl, ?_⟩) ?_ ?_
                        rotate_left
                        ·intro w'
                         go_simp
                         with_reducible rfl
                        rotate_left
                        ·simp only [Act.put, sA_, sB_, sC_, i64_w, i32_w]
                         rfl
                        refine skips_ (fuel := 19) (m := 21) HT_.out (fun _ _ _ _ _ h => h) [(3, 82), (4, 83)] L6_5 rfl (by kernel_rfl) (by kernel_rfl) (a' := ?_) ?_ ?_
                        rotate_left
                        ·simp only [putU, Act.put, sA_, sB_, sC_]
                         rfl
                        refine pure_ (i := 5) (N := some 84) (v := ?_) (a' := ?_) L6_6 rfl rfl (any_of HT_.out (by kernel_rfl)) (fun _ _ _ h => h) (Or.inl ⟨by rfl, ?_⟩) ?_ ?_
                        rotate_left
                        ·intro w'
                         go_simp
                         with_reducible rfl
                        rotate_left
                        ·simp only [Act.put, sA_, sB_, sC_, i64_w, i32_w]
                         rfl
                        refine pure_ (i := 6) (N := some 85) (v := ?_) (a' := ?_) L6_7 rfl rfl (any_of HT_.out (by kernel_rfl)) (fun _ _ _ h => h) (Or.inl ⟨by rfl, ?_⟩) ?_ ?_
                        rotate_left
                        ·intro w'
                         go_simp
                         with_reducible rfl
                        rotate_left
                        ·simp only [Act.put, sA_, sB_, sC_, i64_w, i32_w]
                         rfl
                        refine pure_ (i := 7) (N := some 86) (v := ?_) (a' := ?_) L6_8 rfl rfl (any_of HT_.out (by kernel_rfl)) (fun _ _ _ h => h) (Or.inl ⟨by rfl, ?_⟩) ?_ ?_
                        rotate_left
                        ·intro w'
                         go_simp
                         with_reducible rfl
                        rotate_left
                        ·simp only [Act.put, sA_, sB_, sC_, i64_w, i32_w]
                         rfl
                        refine pure_ (i := 8) (N := some 87) (v := ?_) (a' := ?_) L6_9 rfl rfl (any_of HT_.out (by kernel_rfl)) (fun _ _ _ h => h) (Or.inl ⟨by rfl, ?_⟩) ?_ ?_
                        rotate_left
                        ·intro w'
                         go_simp
                         with_reducible rfl
                        rotate_left
                        ·simp only [Act.put, sA_, sB_, sC_, i64_w, i32_w]
                         rfl
                        refine pure_ (i := 9) (N := some 88) (v := ?_) (a' := ?_) L6_10 rfl rfl (any_of HT_.out (by kernel_rfl)) (fun _ _ _ h => h) (Or.inl ⟨by rfl, ?_⟩) ?_ ?_
                        rotate_left
                        ·intro w'
                         go_simp
                         with_reducible rfl
                        rotate_left
                        ·simp only [Act.put, sA_, sB_, sC_, i64_w, i32_w]
                         rfl
                        refine pure_ (i := 10) (N := some 89) (v := ?_) (a' := ?_) L6_11 rfl rfl (any_of HT_.out (by kernel_rfl)) (fun _ _ _ h => h) (Or.inl ⟨by rfl, ?_⟩) ?_ ?_
                        rotate_left
                        ·intro w'
                         go_simp
                         with_reducible rfl
                        rotate_left
                        ·simp only [Act.put, sA_, sB_, sC_, i64_w, i32_w]
                         rfl
                        refine pure_ (i := 11) (N := some 90) (v := ?_) (a' := ?_) L6_12 rfl rfl (any_of HT_.out (by kernel_rfl)) (fun _ _ _ h => h) (Or.inl ⟨by rfl, ?_⟩) ?_ ?_
                        rotate_left
                        ·intro w'
                         go_simp
                         with_reducible rfl
                        rotate_left
                        ·simp only [Act.put, sA_, sB_, sC_, i64_w, i32_w]
                         rfl
                        refine pure_ (i := 12) (N := some 91) (v := ?_) (a' := ?_) L6_13 rfl rfl (any_of HT_.out (by kernel_rfl)) (fun _ _ _ h => h) (Or.inl ⟨by rfl, ?_⟩) ?_ ?_
                        rotate_left
                        ·intro w'
                         go_simp
                         with_reducible rfl
                        rotate_left
                        ·simp only [Act.put, sA_, sB_, sC_, i64_w, i32_w]
                         rfl
                        refine pure_ (i := 14) (N := some 93) (v := ?_) (a' := ?_) L6_14 rfl rfl (any_of HT_.out (by kernel_rfl)) (fun _ _ _ h => h) (Or.inl ⟨by rfl, ?_⟩) ?_ ?_
                        rotate_left
                        ·intro w'
                         go_simp
                         with_reducible rfl
                        rotate_left
                        ·simp only [Act.put, sA_, sB_, sC_, i64_w, i32_w]
                         rfl
                        refine pure_ (i := 15) (N := some 94) (v := ?_) (a' := ?_) L6_15 rfl rfl (any_of HT_.out (by kernel_rfl)) (fun _ _ _ h => h) (Or.inl ⟨by rfl, ?_⟩) ?_ ?_
                        rotate_left
                        ·intro w'
                         go_simp
                         with_reducible rfl
                        rotate_left
                        ·simp only [Act.put, sA_, sB_, sC_, i64_w, i32_w]
                         rfl
                        refine pure_ (i := 16) (N := some 95) (v := ?_) (a' := ?_) L6_16 rfl rfl (any_of HT_.out (by kernel_rfl)) (fun _ _ _ h => h) (Or.inl ⟨by rfl, ?_⟩) ?_ ?_
                        rotate_left
                        ·intro w'
                         go_simp
                         with_reducible rfl
                        rotate_left
                        ·simp only [Act.put, sA_, sB_, sC_, i64_w, i32_w]
                         rfl
                        refine pure_ (i := 17) (N := some 96) (v := ?_) (a' := ?_) L6_17 rfl rfl (any_of HT_.out (by kernel_rfl)) (fun _ _ _ h => h) (Or.inl ⟨by rfl, ?_⟩) ?_ ?_
                        rotate_left
                        ·intro w'
                         go_simp
                         with_reducible rfl
                        rotate_left
                        ·simp only [Act.put, sA_, sB_, sC_, i64_w, i32_w]
                         rfl
                        refine pure_ (i := 18) (N := some 97) (v := ?_) (a' := ?_) L6_18 rfl rfl (any_of HT_.out (by kernel_rfl)) (fun _ _ _ h => h) (Or.inl ⟨by rfl, ?_⟩) ?_ ?_
                        rotate_left
                        ·intro w'
                         go_simp
                         with_reducible rfl
                        rotate_left
                        ·simp only [Act.put, sA_, sB_, sC_, i64_w, i32_w]
                         rfl
                        refine take_ (i := 13) (N := some 92) (v := ?_) (a' := ?_) L6_19 rfl rfl (take_ofW HT_.out HW_.out (by kernel_rfl)) (fun _ _ _ h => h) (Or.inl ⟨by rfl, ?_⟩) hHeld ?_ ?_
                        rotate_left
                        ·rintro w' ⟨s0, s1, s2, s3, s4⟩
                         go_simp
                         with_reducible rfl
                        rotate_left
                        ·simp only [Act.put, sA_, sB_, sC_, i64_w, i32_w]
                         rfl
                        refine take_ (i := 19) (N := some 98) (v := ?_) (a' := ?_) L6_20 rfl rfl (take_ofW HT_.out HW_.out (by kernel_rfl)) (fun _ _ _ h => h) (Or.inl ⟨by rfl, ?_⟩) hHeld ?_ ?_
                        rotate_left
                        ·rintro w' ⟨s0, s1, s2, s3, s4⟩
                         go_simp
                         with_reducible rfl
                        rotate_left
                        ·simp only [Act.put, sA_, sB_, sC_, i64_w, i32_w]
                         rfl
                        refine one_ (i := 20) (N := some 99) L6_21 rfl rfl (one_of HT_.out (by kernel_rfl)) (by decide) (fun K hK => ?_)
                        refine goes_ Try.func15 (by kernel_rfl) rfl #[.agg #[.slice Ao23 t394.length co23, .slice Ao25 t397.length co25], .agg #[.slice A430_1 ((rd_T41 l0 (ji90)).f1.f0).length c430_1, .slice A430_2 ((rd_T41 l0 (ji90)).f1.f1).length c430_2]] (by rfl) rfl rfl (by (try simp only [List.map_toArray, List.map_cons, List.map_nil]); first | done | (simp only [hji90]; rfl) | rfl | (simp only [List.length_drop, List.length_take]; rfl)) ?_
                        with_reducible refine (fullerref03_Same.calls k3 _ _ t394 _ _ t397 _ _ ((rd_T41 l0 (ji90)).f1.f0) _ _ ((rd_T41 l0 (ji90)).f1.f1) true _ ?side1 ?side2 ?side3 ?side4 ?side5 ?side6 ?side7 ?side8 A93.out).mono ?_
                        (case side1 => repeat (first | exact (Kd.R_reads' HO_402000.out).2.2 | (with_reducible refine Kd.C_alloc ?_ _) | (with_reducible refine Kd.C_drewN ?_ _) | (with_reducible refine Kd.C_drew ?_)))
                        (case side2 => exact (Kd.R_reads' HO_402000.out).2.1)
                        (case side3 => repeat (first | exact (Kd.R_reads' HO_402001.out).2.2 | (with_reducible refine Kd.C_alloc ?_ _) | (with_reducible refine Kd.C_drewN ?_ _) | (with_reducible refine Kd.C_drew ?_)))
                        (case side4 => exact (Kd.R_reads' HO_402001.out).2.1)
                        (case side5 => repeat (first | exact (Kd.C_below HR430_1.out HB.out) | (with_reducible refine Kd.C_alloc ?_ _) | (with_reducible refine Kd.C_drewN ?_ _) | (with_reducible refine Kd.C_drew ?_)))
                        (case side6 => exact HC430_1.out)
                        (case side7 => repeat (first | exact (Kd.C_below HR430_2.out HB.out) | (with_reducible refine Kd.C_alloc ?_ _) | (with_reducible refine Kd.C_drewN ?_ _) | (with_reducible refine Kd.C_drew ?_)))
                        (case side8 => exact HC430_2.out)
                        rintro e w104 ⟨rfl, hb⟩
                        refine ⟨_, rfl, ?_⟩
                        have n0_ := Aside0.mk (Kd.R_below (mvR_ HO_402000.out) hb)
                        have n1_ := Aside0.mk (Kd.R_below (mvR_ HO_402001.out) hb)
                        have n2_ := Aside0.mk (Kd.R_below (mvR_ HO_414000.out) hb)
                        have n3_ := Aside0.mk (Kd.R_below (mvR_ HO_414001.out) hb)
                        have n4_ := Aside0.mk (blk_below (g := gb401) (o := .cells #[.slice Ao23 t394.length co23, .slice Ao25 t397.length co25] 25 (0, 0)) (mvK_ BK401.out) hb)
                        have n5_ := Aside0.mk (blk_below (g := gb413) (o := .cells #[.slice Ao30 t406.length co30, .slice Ao33 t409.length co33] 25 (0, 0)) (mvK_ BK413.out) hb)
                        have n6_ := Aside0.mk (below_step (bq2_ HB.out GE401.out GE413.out) hb)
                        clear HO_402000 HO_402001 HO_414000 HO_414001 BK401 BK413 HB
                        have HO_402000 := n0_
                        have HO_402001 := n1_
                        have HO_414000 := n2_
                        have HO_414001 := n3_
                        have BK401 := n4_
                        have BK413 := n5_
                        have HB := n6_
                        clear n0_ n1_ n2_ n3_ n4_ n5_ n6_
                        (try clear hb)
                        (try clear hb2)
                        (try clear hk)
                        (try clear hi)
                        refine hK.out _ _ ⟨(blk_cell BK401.out 0).trans rfl, (blk_cell BK401.out 1).trans rfl, ((HB.out.cell (World.block_lt_of_cell? w _ hw430_0)).trans hw430_0), ((HB.out.cell (World.block_lt_of_cell? w _ hw430_1)).trans hw430_1), ((HB.out.cell (World.block_lt_of_cell? w _ hw430_2)).trans hw430_2)⟩ (fun hHeld => ?_)
                        clear hK K
                        refine norm_ (a' := ?_) ?_ ?_
                        rotate_left
                        ·show Act.put _ (some 99) _ = _
                         simp only [Act.put, sA_, sB_, sC_, i64_w, i32_w]
                         rfl
                        refine pure_ (i := 21) (N := some 100) (v := ?_) (a' := ?_) L6_22 rfl rfl (any_of HT_.out (by kernel_rfl)) (fun _ _ _ h => h) (Or.inl ⟨by rfl, ?_⟩) ?_ ?_
                        rotate_left
                        ·intro w'
                         go_simp
                         with_reducible rfl
                        rotate_left
                        ·simp only [Act.put, sA_, sB_, sC_, i64_w, i32_w]
                         rfl
                        refine pure_ (i := 22) (N := some 101) (v := ?_) (a' := ?_) L6_23 rfl rfl (any_of HT_.out (by kernel_rfl)) (fun _ _ _ h => h) (Or.inl ⟨by rfl, ?_⟩) ?_ ?_
                        rotate_left
                        ·intro w'
                         go_simp
                         with_reducible rfl
                        rotate_left
                        ·simp only [Act.put, sA_, sB_, sC_, i64_w, i32_w]
                         rfl
                        refine pure_ (i := 23) (N := some 16) (v := ?_) (a' := ?_) L6_24 rfl rfl (any_of HT_.out (by kernel_rfl)) (fun _ _ _ h => h) (Or.inl ⟨by rfl, ?_⟩) ?_ ?_
                        rotate_left
                        ·intro w'
                         go_simp
                         with_reducible rfl
                        rotate_left
                        ·simp only [Act.put, sA_, sB_, sC_, i64_w, i32_w]
                         rfl
                        refine done_ (done_of HT_.out (by kernel_rfl)) ?_
                        have q105 : (ji16 : Int) ≤ ((l0.length : Int) : Int) := of_decide_eq_true (by first | (with_reducible assumption) | assumption)
                        obtain ⟨i0105, hi0105, _, hsz105, _⟩ := info_parts info41
                        have hroom105 : l0.length ≤ c0 := HC0.out
                        have hC105 : Kd.C k41 _ (some ad430) l0.length l0 := HR0.out
                        (try clear hcut27)
                        have hcut105 := cut_to (P := Try.prog) 22 41 .i64 Try.underlying22 hi0105 (some ad430) l0.length c0 ji16 (of_decide_eq_true (by first | (with_reducible assumption) | assumption)) q105 hroom105
                        have hr105 := Kd.C_take (m := (ji16 : Int).toNat) hC105 (by omega)
                        have hy105 : y432.length = (ji16 : Int).toNat := (by rw [Ny432.out, List.length_take]; omega)
                        rw [← Ny432.out] at hr105
                        rw [← hy105] at hcut105
                        have HR435 := Aside0.mk hr105
                        have HC435 := Aside0.mk (show y432.length ≤ c0 from by omega)
                        clear hr105 hC105 hroom105 hi0105 hsz105
                        have KY105 := Aside0.mk hy105
                        clear hy105
                        replace q105 := eq_true q105
                        try go_wp2_with (first | (go_at_call 17; (with_reducible refine (chain_Check.calls k3 _ _ y432 true _ ?side1 ?side2 A97.out).mono ?_); (case side1 => repeat (first | exact (Kd.C_below HR435.out HB.out) | (with_reducible refine Kd.C_alloc ?_ _) | (with_reducible refine Kd.C_drewN ?_ _) | (with_reducible refine Kd.C_drew ?_))); (case side2 => exact HC435.out); rintro e w106 ⟨rfl, hb⟩; have n0_ := Aside0.mk (Kd.R_below (mvR_ HO_402000.out) hb); have n1_ := Aside0.mk (Kd.R_below (mvR_ HO_402001.out) hb); have n2_ := Aside0.mk (Kd.R_below (mvR_ HO_414000.out) hb); have n3_ := Aside0.mk (Kd.R_below (mvR_ HO_414001.out) hb); have n4_ := Aside0.mk (blk_below (g := gb401) (o := .cells #[.slice Ao23 t394.length co23, .slice Ao25 t397.length co25] 25 (0, 0)) (mvK_ BK401.out) hb); have n5_ := Aside0.mk (blk_below (g := gb413) (o := .cells #[.slice Ao30 t406.length co30, .slice Ao33 t409.length co33] 25 (0, 0)) (mvK_ BK413.out) hb); have n6_ := Aside0.mk (below_step (bq2_ HB.out GE401.out GE413.out) hb); clear HO_402000; clear HO_402001; clear HO_414000; clear HO_414001; clear BK401; clear BK413; clear HB; have HO_402000 := n0_; have HO_402001 := n1_; have HO_414000 := n2_; have HO_414001 := n3_; have BK401 := n4_; have BK413 := n5_; have HB := n6_; clear n0_ n1_ n2_ n3_ n4_ n5_ n6_; (try clear hb); (try clear hb2); (try clear hk); (try clear hi); have hnb107 := NB401_413.out; have hnc107 := NB413_401.out; have hcz108_0 : w106.cell? ⟨gb401, 0, none⟩ = some (.slice Ao23 t394.length co23) := (blk_cell BK401.out 0).trans rfl; have hcz108_1 : w106.cell? ⟨gb401, 1, none⟩ = some (.slice Ao25 t397.length co25) := (blk_cell BK401.out 1).trans rfl; have hfz108_0 := blk_frozen BK401.out 0; have hfz108_1 := blk_frozen BK401.out 1; have hcz109_0 : w106.cell? ⟨gb413, 0, none⟩ = some (.slice Ao30 t406.length co30) := (blk_cell BK413.out 0).trans rfl; have hcz109_1 : w106.cell? ⟨gb413, 1, none⟩ = some (.slice Ao33 t409.length co33) := (blk_cell BK413.out 1).trans rfl; have hfz109_0 := blk_frozen BK413.out 0; have hfz109_1 := blk_frozen BK413.out 1) | (go_at_call 15; (with_reducible refine (fullerref03_Same.calls k3 _ _ t394 _ _ t397 _ _ t406 _ _ t409 t437 _ ?side1 ?side2 ?side3 ?side4 ?side5 ?side6 ?side7 ?side8 A102.out).mono ?_); (case side1 => repeat (first | exact (Kd.R_reads' HO_402000.out).2.2 | (with_reducible refine Kd.C_alloc ?_ _) | (with_reducible refine Kd.C_drewN ?_ _) | (with_reducible refine Kd.C_drew ?_))); (case side2 => exact (Kd.R_reads' HO_402000.out).2.1); (case side3 => repeat (first | exact (Kd.R_reads' HO_402001.out).2.2 | (with_reducible refine Kd.C_alloc ?_ _) | (with_reducible refine Kd.C_drewN ?_ _) | (with_reducible refine Kd.C_drew ?_))); (case side4 => exact (Kd.R_reads' HO_402001.out).2.1); (case side5 => repeat (first | exact (Kd.R_reads' HO_414000.out).2.2 | (with_reducible refine Kd.C_alloc ?_ _) | (with_reducible refine Kd.C_drewN ?_ _) | (with_reducible refine Kd.C_drew ?_))); (case side6 => exact (Kd.R_reads' HO_414000.out).2.1); (case side7 => repeat (first | exact (Kd.R_reads' HO_414001.out).2.2 | (with_reducible refine Kd.C_alloc ?_ _) | (with_reducible refine Kd.C_drewN ?_ _) | (with_reducible refine Kd.C_drew ?_))); (case side8 => exact (Kd.R_reads' HO_414001.out).2.1); rintro e w110 ⟨rfl, hb⟩; have n0_ := Aside0.mk (Kd.R_below (mvR_ HO_402000.out) hb); have n1_ := Aside0.mk (Kd.R_below (mvR_ HO_402001.out) hb); have n2_ := Aside0.mk (Kd.R_below (mvR_ HO_414000.out) hb); have n3_ := Aside0.mk (Kd.R_below (mvR_ HO_414001.out) hb); have n4_ := Aside0.mk (blk_below (g := gb401) (o := .cells #[.slice Ao23 t394.length co23, .slice Ao25 t397.length co25] 25 (0, 0)) (mvK_ BK401.out) hb); have n5_ := Aside0.mk (blk_below (g := gb413) (o := .cells #[.slice Ao30 t406.length co30, .slice Ao33 t409.length co33] 25 (0, 0)) (mvK_ BK413.out) hb); have n6_ := Aside0.mk (below_step (bq2_ HB.out GE401.out GE413.out) hb); clear HO_402000; clear HO_402001; clear HO_414000; clear HO_414001; clear BK401; clear BK413; clear HB; have HO_402000 := n0_; have HO_402001 := n1_; have HO_414000 := n2_; have HO_414001 := n3_; have BK401 := n4_; have BK413 := n5_; have HB := n6_; clear n0_ n1_ n2_ n3_ n4_ n5_ n6_; (try clear hb); (try clear hb2); (try clear hk); (try clear hi)))
                        go_ret
                        exact ⟨by first | rfl | (simp [errW_none, errW_some] <;> rfl) | (simp only [← hji16, ← hji90]; first | rfl | (simp [errW_none, errW_some] <;> rfl)) | (simp [*, errW_none, errW_some] <;> rfl), by repeat (first | (with_reducible first | exact HB.out | apply below_alloc | apply pw_below_drewN | apply below_drew1 | refine below_set ?_ GE401.out | refine below_set ?_ GE413.out) | exact HB.out)⟩
                       ·rw [if_neg c101] at H
                        exact absurd H (by simp)
                      ·replace c100 := Bool.eq_false_iff.mpr c100
                       subst c100
                       have H1 : (some true) = some r := by rw [if_neg (show ¬ (false = true) by decide)] at H; exact H
                       clear H
                       have H := H1
                       clear H1
                       obtain rfl := Option.some.inj H
                       try go_wp2
                       have n0_ := Aside0.mk (Kd.R_drew HO_402000.out)
                       have n1_ := Aside0.mk (Kd.R_drew HO_402001.out)
                       have n2_ := Aside0.mk (Kd.R_drew HO_414000.out)
                       have n3_ := Aside0.mk (Kd.R_drew HO_414001.out)
                       have n4_ := Aside0.mk (blk_drew BK401.out)
                       have n5_ := Aside0.mk (blk_drew BK413.out)
                       have n6_ := Aside0.mk (below_drew1 HB.out)
                       clear HO_402000 HO_402001 HO_414000 HO_414001 BK401 BK413 HB
                       have HO_402000 := n0_
                       have HO_402001 := n1_
                       have HO_414000 := n2_
                       have HO_414001 := n3_
                       have BK401 := n4_
                       have BK413 := n5_
                       have HB := n6_
                       clear n0_ n1_ n2_ n3_ n4_ n5_ n6_
                       have p430 : 0 ≤ ((ji90) : Int) := of_decide_eq_true (by first | (with_reducible assumption) | assumption)
                       have q430 : (ji90) < (l0.length : Int) := of_decide_eq_true (by first | (with_reducible assumption) | assumption)
                       obtain ⟨ad430, A430_1, c430_1, A430_2, c430_2, e430, hx430_0, hx430_1, hx430_2, hl430_1, hi430_1, hl430_2, hi430_2⟩ := at_T41 HR0.out (ji90) p430 q430
                       have hw430_2 := hx430_2
                       have hw430_1 := hx430_1
                       have hw430_0 := hx430_0
                       cases e430
                       replace hx430_0 := (HB.out.cell (World.block_lt_of_cell? w _ hx430_0)).trans hx430_0
                       replace hx430_1 := (HB.out.cell (World.block_lt_of_cell? w _ hx430_1)).trans hx430_1
                       replace hx430_2 := (HB.out.cell (World.block_lt_of_cell? w _ hx430_2)).trans hx430_2
                       have HR430_1 := Aside0.mk hi430_1
                       have HC430_1 := Aside0.mk hl430_1
                       clear hi430_1 hl430_1
                       have HR430_2 := Aside0.mk hi430_2
                       have HC430_2 := Aside0.mk hl430_2
                       clear hi430_2 hl430_2
                       replace p430 := eq_true p430
                       replace q430 := eq_true q430
                       refine start_ (n := 24) (S := fun w' => w'.cell? ⟨gb401, 0, none⟩ = some (.slice Ao23 t394.length co23) ∧ w'.cell? ⟨gb401, 1, none⟩ = some (.slice Ao25 t397.length co25) ∧ w'.cell? (ad430.add (((ji90)).toNat * 3)) = some (.int .i64 ((rd_T41 l0 (ji90)).f0)) ∧ w'.cell? ⟨(ad430.add (((ji90)).toNat * 3)).block, (ad430.add (((ji90)).toNat * 3)).off + 1, none⟩ = some (.slice A430_1 ((rd_T41 l0 (ji90)).f1.f0).length c430_1) ∧ w'.cell? ⟨(ad430.add (((ji90)).toNat * 3)).block, (ad430.add (((ji90)).toNat * 3)).off + 2, none⟩ = some (.slice A430_2 ((rd_T41 l0 (ji90)).f1.f1).length c430_2)) (ds := []) L6_0 (by kernel_rfl) rfl rfl ⟨(blk_cell BK401.out 0).trans rfl, (blk_cell BK401.out 1).trans rfl, ((HB.out.cell (World.block_lt_of_cell? w _ hw430_0)).trans hw430_0), ((HB.out.cell (World.block_lt_of_cell? w _ hw430_1)).trans hw430_1), ((HB.out.cell (World.block_lt_of_cell? w _ hw430_2)).trans hw430_2)⟩ (fun hHeld => ?_); refine with_tabW fullerlaw17_ChainCuts.tab14 fullerlaw17_ChainCuts.bits14 (fun HT_ HW_ => ?_)
                       generalize wr.drew = w111 at HO_402000 HO_402001 HO_414000 HO_414001 BK401 BK413 HB HR430_1 HR430_2 hx430_0 hx430_1 hx430_2 hHeld ⊢
                       refine pure_ (i := 0) (N := some 79) (v := ?_) (a' := ?_) L6_1 rfl rfl (any_of HT_.out (by kernel_rfl)) (fun _ _ _ h => h) (Or.inl ⟨by rfl, ?_⟩) ?_ ?_
                       rotate_left
                       ·intro w'
                        go_simp
                        with_reducible rfl
                       rotate_left
                       ·simp only [Act.put, sA_, sB_, sC_, i64_w, i32_w]
                        rfl
                       refine pure_ (i := 1) (N := some 80) (v := ?_) (a' := ?_) L6_2 rfl rfl (any_of HT_.out (by kernel_rfl)) (fun _ _ _ h => h) (Or.inl ⟨by rfl, ?_⟩) ?_ ?_
                       rotate_left
                       ·intro w'
                        go_simp
                        with_reducible rfl
                       rotate_left
                       ·simp only [Act.put, sA_, sB_, sC_, i64_w, i32_w]
                        rfl
                       refine pure_ (i := 2) (N := some 81) (v := ?_) (a' := ?_) L6_3 rfl rfl (any_of HT_.out (by kernel_rfl)) (fun _ _ _ h => h) (Or.inl ⟨by rfl, ?_⟩) ?_ ?_
                       rotate_left
                       ·intro w'
                        go_simp
                        with_reducible rfl
                       rotate_left
                       ·simp only [Act.put, sA_, sB_, sC_, i64_w, i32_w]
                        rfl
                       refine skips_ (fuel := 19) (m := 21) HT_.out (fun _ _ _ _ _ h => h) [(3, 82), (4, 83)] L6_5 rfl (by kernel_rfl) (by kernel_rfl) (a' := ?_) ?_ ?_
                       rotate_left
                       ·simp only [putU, Act.put, sA_, sB_, sC_]
                        rfl
                       refine pure_ (i := 5) (N := some 84) (v := ?_) (a' := ?_) L6_6 rfl rfl (any_of HT_.out (by kernel_rfl)) (fun _ _ _ h => h) (Or.inl ⟨by rfl, ?_⟩) ?_ ?_
                       rotate_left
                       ·intro w'
                        go_simp
                        with_reducible rfl
                       rotate_left
                       ·simp only [Act.put, sA_, sB_, sC_, i64_w, i32_w]
                        rfl
                       refine pure_ (i := 6) (N := some 85) (v := ?_) (a' := ?_) L6_7 rfl rfl (any_of HT_.out (by kernel_rfl)) (fun _ _ _ h => h) (Or.inl ⟨by rfl, ?_⟩) ?_ ?_
                       rotate_left
                       ·intro w'
                        go_simp
                        with_reducible rfl
                       rotate_left
                       ·simp only [Act.put, sA_, sB_, sC_, i64_w, i32_w]
                        rfl
                       refine pure_ (i := 7) (N := some 86) (v := ?_) (a' := ?_) L6_8 rfl rfl (any_of HT_.out (by kernel_rfl)) (fun _ _ _ h => h) (Or.inl ⟨by rfl, ?_⟩) ?_ ?_
                       rotate_left
                       ·intro w'
                        go_simp
                        with_reducible rfl
                       rotate_left
                       ·simp only [Act.put, sA_, sB_, sC_, i64_w, i32_w]
                        rfl
                       refine pure_ (i := 8) (N := some 87) (v := ?_) (a' := ?_) L6_9 rfl rfl (any_of HT_.out (by kernel_rfl)) (fun _ _ _ h => h) (Or.inl ⟨by rfl, ?_⟩) ?_ ?_
                       rotate_left
                       ·intro w'
                        go_simp
                        with_reducible rfl
                       rotate_left
                       ·simp only [Act.put, sA_, sB_, sC_, i64_w, i32_w]
                        rfl
                       refine pure_ (i := 9) (N := some 88) (v := ?_) (a' := ?_) L6_10 rfl rfl (any_of HT_.out (by kernel_rfl)) (fun _ _ _ h => h) (Or.inl ⟨by rfl, ?_⟩) ?_ ?_
                       rotate_left
                       ·intro w'
                        go_simp
                        with_reducible rfl
                       rotate_left
                       ·simp only [Act.put, sA_, sB_, sC_, i64_w, i32_w]
                        rfl
                       refine pure_ (i := 10) (N := some 89) (v := ?_) (a' := ?_) L6_11 rfl rfl (any_of HT_.out (by kernel_rfl)) (fun _ _ _ h => h) (Or.inl ⟨by rfl, ?_⟩) ?_ ?_
                       rotate_left
                       ·intro w'
                        go_simp
                        with_reducible rfl
                       rotate_left
                       ·simp only [Act.put, sA_, sB_, sC_, i64_w, i32_w]
                        rfl
                       refine pure_ (i := 11) (N := some 90) (v := ?_) (a' := ?_) L6_12 rfl rfl (any_of HT_.out (by kernel_rfl)) (fun _ _ _ h => h) (Or.inl ⟨by rfl, ?_⟩) ?_ ?_
                       rotate_left
                       ·intro w'
                        go_simp
                        with_reducible rfl
                       rotate_left
                       ·simp only [Act.put, sA_, sB_, sC_, i64_w, i32_w]
                        rfl
                       refine pure_ (i := 12) (N := some 91) (v := ?_) (a' := ?_) L6_13 rfl rfl (any_of HT_.out (by kernel_rfl)) (fun _ _ _ h => h) (Or.inl ⟨by rfl, ?_⟩) ?_ ?_
                       rotate_left
                       ·intro w'
                        go_simp
                        with_reducible rfl
                       rotate_left
                       ·simp only [Act.put, sA_, sB_, sC_, i64_w, i32_w]
                        rfl
                       refine pure_ (i := 14) (N := some 93) (v := ?_) (a' := ?_) L6_14 rfl rfl (any_of HT_.out (by kernel_rfl)) (fun _ _ _ h => h) (Or.inl ⟨by rfl, ?_⟩) ?_ ?_
                       rotate_left
                       ·intro w'
                        go_simp
                        with_reducible rfl
                       rotate_left
                       ·simp only [Act.put, sA_, sB_, sC_, i64_w, i32_w]
                        rfl
                       refine pure_ (i := 15) (N := some 94) (v := ?_) (a' := ?_) L6_15 rfl rfl (any_of HT_.out (by kernel_rfl)) (fun _ _ _ h => h) (Or.inl ⟨by rfl, ?_⟩) ?_ ?_
                       rotate_left
                       ·intro w'
                        go_simp
                        with_reducible rfl
                       rotate_left
                       ·simp only [Act.put, sA_, sB_, sC_, i64_w, i32_w]
                        rfl
                       refine pure_ (i := 16) (N := some 95) (v := ?_) (a' := ?_) L6_16 rfl rfl (any_of HT_.out (by kernel_rfl)) (fun _ _ _ h => h) (Or.inl ⟨by rfl, ?_⟩) ?_ ?_
                       rotate_left
                       ·intro w'
                        go_simp
                        with_reducible rfl
                       rotate_left
                       ·simp only [Act.put, sA_, sB_, sC_, i64_w, i32_w]
                        rfl
                       refine pure_ (i := 17) (N := some 96) (v := ?_) (a' := ?_) L6_17 rfl rfl (any_of HT_.out (by kernel_rfl)) (fun _ _ _ h => h) (Or.inl ⟨by rfl, ?_⟩) ?_ ?_
                       rotate_left
                       ·intro w'
                        go_simp
                        with_reducible rfl
                       rotate_left
                       ·simp only [Act.put, sA_, sB_, sC_, i64_w, i32_w]
                        rfl
                       refine pure_ (i := 18) (N := some 97) (v := ?_) (a' := ?_) L6_18 rfl rfl (any_of HT_.out (by kernel_rfl)) (fun _ _ _ h => h) (Or.inl ⟨by rfl, ?_⟩) ?_ ?_
                       rotate_left
                       ·intro w'
                        go_simp
                        with_reducible rfl
                       rotate_left
                       ·simp only [Act.put, sA_, sB_, sC_, i64_w, i32_w]
                        rfl
                       refine take_ (i := 13) (N := some 92) (v := ?_) (a' := ?_) L6_19 rfl rfl (take_ofW HT_.out HW_.out (by kernel_rfl)) (fun _ _ _ h => h) (Or.inl ⟨by rfl, ?_⟩) hHeld ?_ ?_
                       rotate_left
                       ·rintro w' ⟨s0, s1, s2, s3, s4⟩
                        go_simp
                        with_reducible rfl
                       rotate_left
                       ·simp only [Act.put, sA_, sB_, sC_, i64_w, i32_w]
                        rfl
                       refine take_ (i := 19) (N := some 98) (v := ?_) (a' := ?_) L6_20 rfl rfl (take_ofW HT_.out HW_.out (by kernel_rfl)) (fun _ _ _ h => h) (Or.inl ⟨by rfl, ?_⟩) hHeld ?_ ?_
                       rotate_left
                       ·rintro w' ⟨s0, s1, s2, s3, s4⟩
                        go_simp
                        with_reducible rfl
                       rotate_left
                       ·simp only [Act.put, sA_, sB_, sC_, i64_w, i32_w]
                        rfl
                       refine one_ (i := 20) (N := some 99) L6_21 rfl rfl (one_of HT_.out (by kernel_rfl)) (by decide) (fun K hK => ?_)
                       refine goes_ Try.func15 (by kernel_rfl) rfl #[.agg #[.slice Ao23 t394.length co23, .slice Ao25 t397.length co25], .agg #[.slice A430_1 ((rd_T41 l0 (ji90)).f1.f0).length c430_1, .slice A430_2 ((rd_T41 l0 (ji90)).f1.f1).length c430_2]] (by rfl) rfl rfl (by (try simp only [List.map_toArray, List.map_cons, List.map_nil]); first | done | (simp only [hji90]; rfl) | rfl | (simp only [List.length_drop, List.length_take]; rfl)) ?_
                       with_reducible refine (fullerref03_Same.calls k3 _ _ t394 _ _ t397 _ _ ((rd_T41 l0 (ji90)).f1.f0) _ _ ((rd_T41 l0 (ji90)).f1.f1) true _ ?side1 ?side2 ?side3 ?side4 ?side5 ?side6 ?side7 ?side8 A93.out).mono ?_
                       (case side1 => repeat (first | exact (Kd.R_reads' HO_402000.out).2.2 | (with_reducible refine Kd.C_alloc ?_ _) | (with_reducible refine Kd.C_drewN ?_ _) | (with_reducible refine Kd.C_drew ?_)))
                       (case side2 => exact (Kd.R_reads' HO_402000.out).2.1)
                       (case side3 => repeat (first | exact (Kd.R_reads' HO_402001.out).2.2 | (with_reducible refine Kd.C_alloc ?_ _) | (with_reducible refine Kd.C_drewN ?_ _) | (with_reducible refine Kd.C_drew ?_)))
                       (case side4 => exact (Kd.R_reads' HO_402001.out).2.1)
                       (case side5 => repeat (first | exact (Kd.C_below HR430_1.out HB.out) | (with_reducible refine Kd.C_alloc ?_ _) | (with_reducible refine Kd.C_drewN ?_ _) | (with_reducible refine Kd.C_drew ?_)))
                       (case side6 => exact HC430_1.out)
                       (case side7 => repeat (first | exact (Kd.C_below HR430_2.out HB.out) | (with_reducible refine Kd.C_alloc ?_ _) | (with_reducible refine Kd.C_drewN ?_ _) | (with_reducible refine Kd.C_drew ?_)))
                       (case side8 => exact HC430_2.out)
                       rintro e w112 ⟨rfl, hb⟩
                       refine ⟨_, rfl, ?_⟩
                       have n0_ := Aside0.mk (Kd.R_below (mvR_ HO_402000.out) hb)
                       have n1_ := Aside0.mk (Kd.R_below (mvR_ HO_402001.out) hb)
                       have n2_ := Aside0.mk (Kd.R_below (mvR_ HO_414000.out) hb)
                       have n3_ := Aside0.mk (Kd.R_below (mvR_ HO_414001.out) hb)
                       have n4_ := Aside0.mk (blk_below (g := gb401) (o := .cells #[.slice Ao23 t394.length co23, .slice Ao25 t397.length co25] 25 (0, 0)) (mvK_ BK401.out) hb)
                       have n5_ := Aside0.mk (blk_below (g := gb413) (o := .cells #[.slice Ao30 t406.length co30, .slice Ao33 t409.length co33] 25 (0, 0)) (mvK_ BK413.out) hb)
                       have n6_ := Aside0.mk (below_step (bq2_ HB.out GE401.out GE413.out) hb)
                       clear HO_402000 HO_402001 HO_414000 HO_414001 BK401 BK413 HB
                       have HO_402000 := n0_
                       have HO_402001 := n1_
                       have HO_414000 := n2_
                       have HO_414001 := n3_
                       have BK401 := n4_
                       have BK413 := n5_
                       have HB := n6_
                       clear n0_ n1_ n2_ n3_ n4_ n5_ n6_
                       (try clear hb)
                       (try clear hb2)
                       (try clear hk)
                       (try clear hi)
                       refine hK.out _ _ ⟨(blk_cell BK401.out 0).trans rfl, (blk_cell BK401.out 1).trans rfl, ((HB.out.cell (World.block_lt_of_cell? w _ hw430_0)).trans hw430_0), ((HB.out.cell (World.block_lt_of_cell? w _ hw430_1)).trans hw430_1), ((HB.out.cell (World.block_lt_of_cell? w _ hw430_2)).trans hw430_2)⟩ (fun hHeld => ?_)
                       clear hK K
                       refine norm_ (a' := ?_) ?_ ?_
                       rotate_left
                       ·show Act.put _ (some 99) _ = _
                        simp only [Act.put, sA_, sB_, sC_, i64_w, i32_w]
                        rfl
                       refine pure_ (i := 21) (N := some 100) (v := ?_) (a' := ?_) L6_22 rfl rfl (any_of HT_.out (by kernel_rfl)) (fun _ _ _ h => h) (Or.inl ⟨by rfl, ?_⟩) ?_ ?_
                       rotate_left
                       ·intro w'
                        go_simp
                        with_reducible rfl
                       rotate_left
                       ·simp only [Act.put, sA_, sB_, sC_, i64_w, i32_w]
                        rfl
                       refine pure_ (i := 22) (N := some 101) (v := ?_) (a' := ?_) L6_23 rfl rfl (any_of HT_.out (by kernel_rfl)) (fun _ _ _ h => h) (Or.inl ⟨by rfl, ?_⟩) ?_ ?_
                       rotate_left
                       ·intro w'
                        go_simp
                        with_reducible rfl
                       rotate_left
                       ·simp only [Act.put, sA_, sB_, sC_, i64_w, i32_w]
                        rfl
                       refine pure_ (i := 23) (N := some 16) (v := ?_) (a' := ?_) L6_24 rfl rfl (any_of HT_.out (by kernel_rfl)) (fun _ _ _ h => h) (Or.inl ⟨by rfl, ?_⟩) ?_ ?_
                       rotate_left
                       ·intro w'
                        go_simp
                        with_reducible rfl
                       rotate_left
                       ·simp only [Act.put, sA_, sB_, sC_, i64_w, i32_w]
                        rfl
                       refine done_ (done_of HT_.out (by kernel_rfl)) ?_
                       have q113 : (ji16 : Int) ≤ ((l0.length : Int) : Int) := of_decide_eq_true (by first | (with_reducible assumption) | assumption)
                       obtain ⟨i0113, hi0113, _, hsz113, _⟩ := info_parts info41
                       have hroom113 : l0.length ≤ c0 := HC0.out
                       have hC113 : Kd.C k41 _ (some ad430) l0.length l0 := HR0.out
                       (try clear hcut27)
                       have hcut113 := cut_to (P := Try.prog) 22 41 .i64 Try.underlying22 hi0113 (some ad430) l0.length c0 ji16 (of_decide_eq_true (by first | (with_reducible assumption) | assumption)) q113 hroom113
                       have hr113 := Kd.C_take (m := (ji16 : Int).toNat) hC113 (by omega)
                       have hy113 : y432.length = (ji16 : Int).toNat := (by rw [Ny432.out, List.length_take]; omega)
                       rw [← Ny432.out] at hr113
                       rw [← hy113] at hcut113
                       have HR435 := Aside0.mk hr113
                       have HC435 := Aside0.mk (show y432.length ≤ c0 from by omega)
                       clear hr113 hC113 hroom113 hi0113 hsz113
                       have KY113 := Aside0.mk hy113
                       clear hy113
                       replace q113 := eq_true q113
                       try go_wp2_with (first | (go_at_call 17; (with_reducible refine (chain_Check.calls k3 _ _ y432 true _ ?side1 ?side2 A97.out).mono ?_); (case side1 => repeat (first | exact (Kd.C_below HR435.out HB.out) | (with_reducible refine Kd.C_alloc ?_ _) | (with_reducible refine Kd.C_drewN ?_ _) | (with_reducible refine Kd.C_drew ?_))); (case side2 => exact HC435.out); rintro e w114 ⟨rfl, hb⟩; have n0_ := Aside0.mk (Kd.R_below (mvR_ HO_402000.out) hb); have n1_ := Aside0.mk (Kd.R_below (mvR_ HO_402001.out) hb); have n2_ := Aside0.mk (Kd.R_below (mvR_ HO_414000.out) hb); have n3_ := Aside0.mk (Kd.R_below (mvR_ HO_414001.out) hb); have n4_ := Aside0.mk (blk_below (g := gb401) (o := .cells #[.slice Ao23 t394.length co23, .slice Ao25 t397.length co25] 25 (0, 0)) (mvK_ BK401.out) hb); have n5_ := Aside0.mk (blk_below (g := gb413) (o := .cells #[.slice Ao30 t406.length co30, .slice Ao33 t409.length co33] 25 (0, 0)) (mvK_ BK413.out) hb); have n6_ := Aside0.mk (below_step (bq2_ HB.out GE401.out GE413.out) hb); clear HO_402000; clear HO_402001; clear HO_414000; clear HO_414001; clear BK401; clear BK413; clear HB; have HO_402000 := n0_; have HO_402001 := n1_; have HO_414000 := n2_; have HO_414001 := n3_; have BK401 := n4_; have BK413 := n5_; have HB := n6_; clear n0_ n1_ n2_ n3_ n4_ n5_ n6_; (try clear hb); (try clear hb2); (try clear hk); (try clear hi)))
                       go_ret
                       exact ⟨by first | rfl | (simp [errW_none, errW_some] <;> rfl) | (simp only [← hji16, ← hji90]; first | rfl | (simp [errW_none, errW_some] <;> rfl)) | (simp [*, errW_none, errW_some] <;> rfl), by repeat (first | (with_reducible first | exact HB.out | apply below_alloc | apply pw_below_drewN | apply below_drew1 | refine below_set ?_ GE401.out | refine below_set ?_ GE413.out) | exact HB.out)⟩
                     ·replace c99 := Bool.eq_false_iff.mpr c99
                      subst c99
                      have H1 : (none) = some r := by rw [if_neg (show ¬ (false = true) by decide)] at H; exact H
                      clear H
                      have H := H1
                      clear H1
                      exact absurd H (by simp)
                    ·replace c98 := Bool.eq_false_iff.mpr c98
                     subst c98
                     have H1 : (none) = some r := by rw [if_neg (show ¬ (false = true) by decide)] at H; exact H
                     clear H
                     have H := H1
                     clear H1
                     exact absurd H (by simp)
                   ·rw [if_neg c96] at H
                    exact absurd H (by simp)
                  ·rw [if_neg c95] at H
                   exact absurd H (by simp)
                 ·replace c94 := Bool.eq_false_iff.mpr c94
                  subst c94
                  have H1 : (none) = some r := by rw [if_neg (show ¬ (false = true) by decide)] at H; exact H
                  clear H
                  have H := H1
                  clear H1
                  exact absurd H (by simp)
                ·rw [if_neg c92] at H
                 exact absurd H (by simp)
               ·rw [if_neg c91] at H
                exact absurd H (by simp)
              ·replace c89 := Bool.eq_false_iff.mpr c89
               subst c89
               have H1 : (none) = some r := by rw [if_neg (show ¬ (false = true) by decide)] at H; exact H
               clear H
               have H := H1
               clear H1
               exact absurd H (by simp)
             ·rw [if_neg c88] at H
              exact absurd H (by simp)
      ·rw [if_neg c18] at H
       exact absurd H (by simp)
     ·rw [if_neg c17] at H
      exact absurd H (by simp)

/-- THE ONE PURE STATEMENT of fullerlaw17_ChainCuts: yours. -/
def fullerlaw17_ChainCuts.Pure : Prop := ∀ (l0 : List (S41)) (a1 : Int) (a2 : Int), (l0.length * 56 ≤ 140737488351232 ∧ ∀ x_ ∈ l0, OK41 x_) → ((Lit.int .u8 a1).wf = true) → ((Lit.int .i64 a2).wf = true) → ∃ k, fullerlaw17_ChainCuts.f k l0 a1 a2 = some true
theorem fullerlaw17_ChainCuts.walk (P : fullerlaw17_ChainCuts.Pure) (A0 : Option Addr) (c0 : Nat) (l0 : List (S41)) (a1 : Int) (a2 : Int) (w : World) (hr0 : Kd.C k41 w A0 l0.length l0) (hc0 : l0.length ≤ c0) (hg0 : l0.length * 56 ≤ 140737488351232 ∧ ∀ x_ ∈ l0, OK41 x_) (hg1 : (Lit.int .u8 a1).wf = true) (hg2 : (Lit.int .i64 a2).wf = true) :
  Calls Try.prog 6 #[.slice A0 l0.length c0, .int .u8 a1, .int .i64 a2] w fun e w' => e = .returned (.bool true) ∧ Below w.heap.size w w' := by
 obtain ⟨k, h⟩ := P l0 a1 a2 hg0 hg1 hg2
 refine (fullerlaw17_ChainCuts.calls k _ _ l0 a1 a2 true w hr0 hc0 h).mono ?_
 rintro e w' ⟨rfl, hd⟩
 exact ⟨rfl, hd⟩

end Go.Proofs.Ytdjlpbekoggmiaa.A
