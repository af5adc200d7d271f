/- Lean functions that answer as the Go functions do, and the proofs that they do; no conditions. Written by this session's own driver: a scratch copy of the kit's print with the session's additions (wip/xprint). -/
import Derived.Test.YtalmgghhpgfgoaaAx0
import Derived.Test.YtalmgghhpgfgoaaAx10
import Derived.Test.YtalmgghhpgfgoaaAx11
import Derived.Test.YtalmgghhpgfgoaaAx13
import Derived.Test.YtalmgghhpgfgoaaAx14
import Derived.Test.YtalmgghhpgfgoaaAx16
namespace Go.Proofs.Ytalmgghhpgfgoaa.A
open Go.RowKit Go.Proofs.YtalmgghhpgfgoaaW.PrintWords Go.Proofs.YtalmgghhpgfgoaaW.PrintLast Go.Proofs.YtalmgghhpgfgoaaW.PrintMore
attribute [local go_sem] max2_int min2_int max_two min_two max_three min_three max_four min_four
set_option linter.unusedVariables false
set_option linter.unusedSimpArgs false
def L12_0 : Array Bool := #[false, false, false, false, false, false, false, false, false, false, false]
def L12_1 : Array Bool := #[true, false, false, false, false, false, false, false, false, false, false]
def L12_2 : Array Bool := #[true, true, false, false, false, false, false, false, false, false, false]
def L12_3 : Array Bool := #[true, true, false, true, false, false, false, false, false, false, false]
def L12_4 : Array Bool := #[true, true, false, true, true, false, false, false, false, false, false]
def L12_5 : Array Bool := #[true, true, true, true, true, false, false, false, false, false, false]
def L12_6 : Array Bool := #[true, true, true, true, true, true, false, false, false, false, false]
def L12_7 : Array Bool := #[true, true, true, true, true, true, true, false, false, false, false]
def L12_8 : Array Bool := #[true, true, true, true, true, true, true, true, false, false, false]
def L12_9 : Array Bool := #[true, true, true, true, true, true, true, true, true, false, false]
def L12_10 : Array Bool := #[true, true, true, true, true, true, true, true, true, true, false]
def L12_11 : Array Bool := #[true, true, true, true, true, true, true, true, true, true, true]
def L12_12 : Array Bool := #[false, false, false, false, false, false, false, false, false, false, false, false, false, false, false]
def L12_13 : Array Bool := #[true, false, false, false, false, false, false, false, false, false, false, false, false, false, false]
def L12_14 : Array Bool := #[true, false, true, false, false, false, false, false, false, false, false, false, false, false, false]
def L12_15 : Array Bool := #[true, false, true, false, false, true, false, false, false, false, false, false, false, false, false]
def L12_16 : Array Bool := #[true, false, true, false, false, true, true, false, false, false, false, false, false, false, false]
def L12_17 : Array Bool := #[true, true, true, false, false, true, true, false, false, false, false, false, false, false, false]
def L12_18 : Array Bool := #[true, true, true, true, false, true, true, false, false, false, false, false, false, false, false]
def L12_19 : Array Bool := #[true, true, true, true, false, true, true, true, false, false, false, false, false, false, false]
def L12_20 : Array Bool := #[true, true, true, true, true, true, true, true, false, false, false, false, false, false, false]
def L12_21 : Array Bool := #[true, true, true, true, true, true, true, true, true, false, false, false, false, false, false]
def L12_22 : Array Bool := #[true, true, true, true, true, true, true, true, true, true, false, false, false, false, false]
def L12_23 : Array Bool := #[true, true, true, true, true, true, true, true, true, true, true, false, false, false, false]
def L12_24 : Array Bool := #[true, true, true, true, true, true, true, true, true, true, true, true, false, false, false]
def L12_25 : Array Bool := #[true, true, true, true, true, true, true, true, true, true, true, true, true, false, false]
def L12_26 : Array Bool := #[true, true, true, true, true, true, true, true, true, true, true, true, true, true, false]
def L12_27 : Array Bool := #[true, true, true, true, true, true, true, true, true, true, true, true, true, true, true]
mutual
def fullerref11_Node.j0 : Nat → List (List Int) → Bool → Int → List Int → List Int → Option (List Int × Int)
 | 0, _, _, _, _, _ => none
 | k + 1, x1, x22, x428000, x428001, x428002 => if x22 = true then (some (([] : List Int), 20)) else (fullerref11_Node.l0 k x1 0 x428000 x428001 x428002)
def fullerref11_Node.l0 : Nat → List (List Int) → Int → Int → List Int → List Int → Option (List Int × Int)
 | 0, _, _, _, _, _ => none
 | k + 1, x1, x7, x428000, x428001, x428002 => if x7 < (x1.length : Int) then (if 0 ≤ x7 then ((fullerref02_Check.f k (rd_L1 x1 x7)).bind fun t431 => (if t431 = true then (fullerref11_Node.l0 k x1 (wrap64 (x7 + 1)) x428000 x428001 x428002) else (some (([] : List Int), 20)))) else (none)) else (if x428000 = 1 then (some (x428002, 0)) else (if x428000 = 2 then (if 1 ≤ (x428002.length : Int) then (some ((x428002.drop 1), 0)) else (none)) else (if x428000 = 3 then (some (([] : List Int), 0)) else (if x428000 = 10 then (fullerref11_Node.j2 k x1 x428000 (x428000 == 10) x428000 x428001 x428002) else (if x428000 = 11 then (fullerref11_Node.j2 k x1 x428000 (x428000 == 11) x428000 x428001 x428002) else (if x428000 = 12 then (fullerref11_Node.j2 k x1 x428000 (x428000 == 12) x428000 x428001 x428002) else (fullerref11_Node.j2 k x1 x428000 (x428000 == 13) x428000 x428001 x428002)))))))
def fullerref11_Node.j2 : Nat → List (List Int) → Int → Bool → Int → List Int → List Int → Option (List Int × Int)
 | 0, _, _, _, _, _, _ => none
 | k + 1, x1, x37, x49, x428000, x428001, x428002 => if x49 = true then (if 0 < (x1.length : Int) then (if 1 < (x1.length : Int) then ((fullerref02_Join.f k (rd_L1 x1 0) (rd_L1 x1 1)).bind fun bt439 => (some (bt439.1, bt439.2))) else (none)) else (none)) else (if x37 = 20 then (fullerref11_Node.j3 k x1 x37 (x37 == 20) x428000 x428001 x428002) else (if x37 = 21 then (fullerref11_Node.j3 k x1 x37 (x37 == 21) x428000 x428001 x428002) else (if x37 = 22 then (fullerref11_Node.j3 k x1 x37 (x37 == 22) x428000 x428001 x428002) else (fullerref11_Node.j3 k x1 x37 (x37 == 23) x428000 x428001 x428002))))
def fullerref11_Node.j3 : Nat → List (List Int) → Int → Bool → Int → List Int → List Int → Option (List Int × Int)
 | 0, _, _, _, _, _, _ => none
 | k + 1, x1, x37, x63, x428000, x428001, x428002 => if x63 = true then (if 0 < (x1.length : Int) then (some (rd_L1 x1 0, 0)) else (none)) else (if x37 = 40 then ((fullerref02_Size.f k x428002).bind fun t444 => (if 0 < (x1.length : Int) then ((fullerref02_Size.f k (rd_L1 x1 0)).bind fun t446 => ((fullerref11_told.f k x428002 (t444 == t446)).bind fun bt447 => (some (bt447.1, bt447.2)))) else (none))) else (if x37 = 41 then (if 0 < (x1.length : Int) then (fullerref11_Node.l1 k x1 ([] : List Int) (wrap64 (((rd_L1 x1 0).length : Int) - 1))) else (none)) else ((fullerref11_more.f k x428000 x428001 x428002 x1).bind fun bt457 => (some (bt457.1, bt457.2)))))
def fullerref11_Node.l1 : Nat → List (List Int) → List Int → Int → Option (List Int × Int)
 | 0, _, _, _ => none
 | k + 1, x1, x9, x10 => if x10 ≥ 0 then (if 0 < (x1.length : Int) then (if 0 ≤ x10 then (if x10 < ((rd_L1 x1 0).length : Int) then (if x9.length < 17592186044416 then (fullerref11_Node.l1 k x1 (x9 ++ [rd (rd_L1 x1 0) x10]) (wrap64 (x10 - 1))) else (none)) else (none)) else (none)) else (none)) else (some (x9, 0))
end
def fullerref11_Node.f (k : Nat) (a0_0 : Int) (l0_1 : List Int) (l0_2 : List Int) (l1 : List (List Int)) : Option (List Int × Int) := (fullerref11_alone.f k a0_0 l0_1 l0_2).bind fun t428 => (if t428 = true then ((fullerref10_Arity.f k a0_0).bind fun t429 => (fullerref11_Node.j0 k l1 ((l1.length : Int) != t429) a0_0 l0_1 l0_2)) else (fullerref11_Node.j0 k l1 true a0_0 l0_1 l0_2))
def fullerref11_Node.T21 : Bool × List (List Nat × List Nat) := (true, [([], []), ([0], [0]), ([1], [1]), ([], []), ([3], [3]), ([4], [4]), ([2, 5], [2, 5]), ([6], [6]), ([6], [6]), ([7, 6, 0, 1, 2, 3, 4, 5, 6, 7, 8], [7]), ([8, 9, 0, 1, 2, 3, 4, 5, 6, 7, 8, 9], [8])])
def fullerref11_Node.B21 : List Nat := [0, 1, 3, 0, 8, 24, 63, 127, 127, 511, 1023]
theorem fullerref11_Node.tab21 : rtab .any (opsOf Try.f12 21) = fullerref11_Node.T21 := by kernel_rfl
theorem fullerref11_Node.bits21 : waitsOk fullerref11_Node.T21.2 fullerref11_Node.B21 = true := by kernel_rfl
def fullerref11_Node.T28 : Bool × List (List Nat × List Nat) := (true, [([], []), ([0], [0]), ([], []), ([2], [2]), ([3], [3]), ([], []), ([5], [5]), ([6], [6]), ([7, 4], [7]), ([4, 8], [4, 8]), ([1, 9, 8], [1, 9]), ([10], [10]), ([10], [10]), ([11, 10, 0, 1, 2, 3, 4, 5, 6, 7, 8, 9, 10, 11, 12], [11]), ([12, 13, 0, 1, 2, 3, 4, 5, 6, 7, 8, 9, 10, 11, 12, 13], [12])])
def fullerref11_Node.B28 : List Nat := [0, 1, 0, 4, 12, 0, 32, 96, 252, 508, 1023, 2047, 2047, 8191, 16383]
theorem fullerref11_Node.tab28 : rtab .any (opsOf Try.f12 28) = fullerref11_Node.T28 := by kernel_rfl
theorem fullerref11_Node.bits28 : waitsOk fullerref11_Node.T28.2 fullerref11_Node.B28 = true := by kernel_rfl
set_option maxHeartbeats 8000000 in
set_option maxRecDepth 100000 in
theorem fullerref11_Node.calls (k : Nat) (a0_0 : Int) (A0_1 : Option Addr) (c0_1 : Nat) (l0_1 : List Int) (P0_2_ : Nat → Prop) (A0_2 : Option Addr) (c0_2 : Nat) (l0_2 : List Int) (P1_ : Nat → Prop) (A1 : Option Addr) (c1 : Nat) (l1 : List (List Int)) (r1 : List Int) (r2 : Int) (w : World) (hr0_1 : Kd.C (Kd.int .i64) w A0_1 l0_1.length l0_1) (hc0_1 : l0_1.length ≤ c0_1) (hs0_2 : Kd.V (Kd.int .i64) 3 w w.heap.size (fun k_ => P0_2_ k_) (.slice A0_2 l0_2.length c0_2) l0_2) (hs1 : Kd.V (Kd.slice 3 (Kd.int .i64)) 23 w w.heap.size (fun k_ => P1_ k_) (.slice A1 l1.length c1) l1) (h : fullerref11_Node.f k a0_0 l0_1 l0_2 l1 = some (r1, r2)) :
  Calls Try.prog 12 #[.agg #[.int .i64 a0_0, .slice A0_1 l0_1.length c0_1, .slice A0_2 l0_2.length c0_2], .slice A1 l1.length c1] w fun e w' => ∃ v0_ : Value, e = .returned (.tuple #[v0_, .int .i64 r2]) ∧ Kd.V (Kd.int .i64) 3 w' w.heap.size (fun k_ => ((P0_2_ k_ ∨ P1_ k_) ∨ w.heap.size ≤ k_)) v0_ r1 ∧ Below w.heap.size w w' := by
 have hu25 := Try.underlying25
 have HR0_1 := Aside0.mk hr0_1
 have HC0_1 := Aside0.mk hc0_1
 clear hr0_1 hc0_1
 have HO0_2 := Aside0.mk (show Kd.V (Kd.int .i64) 3 w w.heap.size (fun k_ => ((P0_2_ k_ ∨ P1_ k_) ∨ w.heap.size ≤ k_)) (.slice A0_2 l0_2.length c0_2) l0_2 from Kd.V_mono hs0_2 (fun k_ hk => .inl (.inl hk)))
 have HO1 := Aside0.mk (show Kd.V (Kd.slice 3 (Kd.int .i64)) 23 w w.heap.size (fun k_ => ((P0_2_ k_ ∨ P1_ k_) ∨ w.heap.size ≤ k_)) (.slice A1 l1.length c1) l1 from Kd.V_mono hs1 (fun k_ hk => .inl (.inr hk)))
 have HB := Aside0.mk (Below.refl w.heap.size w)
 have H : ((fullerref11_alone.f k a0_0 l0_1 l0_2).bind fun t428 => (if t428 = true then ((fullerref10_Arity.f k a0_0).bind fun t429 => (fullerref11_Node.j0 k l1 ((l1.length : Int) != t429) a0_0 l0_1 l0_2)) else (fullerref11_Node.j0 k l1 true a0_0 l0_1 l0_2))) = some (r1, r2) := h
 clear h
 replace H := Option.bind_eq_some_iff.mp H
 obtain ⟨t428, A30, H⟩ := H
 replace H : (if t428 = true then ((fullerref10_Arity.f k a0_0).bind fun t429 => (fullerref11_Node.j0 k l1 ((l1.length : Int) != t429) a0_0 l0_1 l0_2)) else (fullerref11_Node.j0 k l1 true a0_0 l0_1 l0_2)) = some (r1, r2) := H
 have A3 := Aside0.mk A30
 clear A30
 have HC4 := Aside0.mk H
 clear H
 go_enter Try.func12, Try.ntmps12
 go_upto_region 2 with (first | ((with_reducible refine gate_dst (N := 2) rfl ?_); (try (refine gate_guard (by rfl) ?_; dsimp only)); refine box_event ?hg (N := 2) ?hd (cs := #[.int .i64 a0_0, .slice A0_1 l0_1.length c0_1, .slice A0_2 l0_2.length c0_2]) (t := 25) ?hr ?_; (case hd => rfl); (case hg => rfl); (case hr => first | (go_simp; done) | (go_simp; rfl)); intro gb427 hg w5 hbox hb; have BK427 := Aside0.mk (hbox); have GW427 := Aside0.mk ((by rw [hg]; exact (below_size (bq0_ HB.out)) : w.heap.size ≤ gb427)); have GE427 := Aside0.mk ((by rw [hg]; exact (below_size (bq0_ HB.out)) : w.heap.size ≤ gb427)); replace HO0_2 := Aside0.mk (Kd.V_below (Kd.V_elderB (mvV_ HO0_2.out) gb427 (Nat.le_of_eq hg.symm)) hb); replace HO1 := Aside0.mk (Kd.V_below (Kd.V_elderB (mvV_ HO1.out) gb427 (Nat.le_of_eq hg.symm)) hb); replace HB := Aside0.mk (below_step (bq0_ HB.out) hb); clear hb hbox hg; have hcz6_0 := hc_ BK427 0; have hcz6_1 := hc_ BK427 1; have hcz6_2 := hc_ BK427 2; have hfz6_0 := blk_frozen BK427.out 0; have hfz6_1 := blk_frozen BK427.out 1; have hfz6_2 := blk_frozen BK427.out 2) | ((with_reducible refine gate_callee (f := 24) rfl ?_); refine gL_ (some 12) Try.func24 #[.agg #[.int .i64 a0_0, .slice A0_1 l0_1.length c0_1, .slice A0_2 l0_2.length c0_2]] ?_; (with_reducible refine (fullerref11_alone.calls k a0_0 _ _ l0_1 (fun k_ => (((P0_2_ k_ ∨ P1_ k_) ∨ w.heap.size ≤ k_) ∧ k_ ≠ gb427)) _ _ l0_2 t428 _ ?side1 ?side2 ?side3 A3.out).mono ?_); (case side1 => exact mvC_ ((Kd.C_below HR0_1.out HB.out))); (case side2 => exact HC0_1.out); (case side3 => first | exact HO0_2.out | exact Kd.V_mono HO0_2.out (fun _ h_ => by simpa only [and_assoc, and_comm, and_left_comm] using h_)); rintro e w7 ⟨rfl, hb⟩; refine ⟨_, rfl, ?_⟩; replace HO0_2 := Aside0.mk (Kd.V_below (mvV_ HO0_2.out) hb); replace HO1 := Aside0.mk (Kd.V_below (mvV_ HO1.out) hb); replace BK427 := Aside0.mk (blk_below (g := gb427) (o := .cells #[.int .i64 a0_0, .slice A0_1 l0_1.length c0_1, .slice A0_2 l0_2.length c0_2] 25 (0, 0)) (mvK_ BK427.out) hb); replace HB := Aside0.mk (below_step (bq1_ HB.out GE427.out) hb); (try clear hb)))
 (try simp only [Act.put, sA_, sB_, sC_])
 go_cut [22] (fun v22 wc => ∃ (kq : Nat) (x22_3 : Bool), v22 = .bool x22_3 ∧ Aside0 (fullerref11_Node.j0 kq l1 x22_3 a0_0 l0_1 l0_2 = some (r1, r2)) ∧ Aside0 (kq ≤ k) ∧ Aside0 (Kd.V (Kd.slice 3 (Kd.int .i64)) 23 wc w.heap.size (fun k_ => ((P0_2_ k_ ∨ P1_ k_) ∨ w.heap.size ≤ k_) ∧ k_ ≠ gb427) (.slice A1 l1.length c1) l1) ∧ Aside0 (Kd.V (Kd.int .i64) 3 wc w.heap.size (fun k_ => ((P0_2_ k_ ∨ P1_ k_) ∨ w.heap.size ≤ k_) ∧ k_ ≠ gb427) (.slice A0_2 l0_2.length c0_2) l0_2) ∧ Aside0 (wc.heap[gb427]? = some (.cells #[.int .i64 a0_0, (.slice A0_1 l0_1.length c0_1), (.slice A0_2 l0_2.length c0_2)] 25 (0, 0))) ∧ Aside0 (Below w.heap.size w wc))
 case first =>
  have H := HC4.out
  clear HC4
  by_cases c8 : t428 = true
  ·subst c8
   have H1 : ((fullerref10_Arity.f k a0_0).bind fun t429 => (fullerref11_Node.j0 k l1 ((l1.length : Int) != t429) a0_0 l0_1 l0_2)) = some (r1, r2) := by rw [if_pos rfl] at H; exact H
   clear H
   have H := H1
   clear H1
   replace H := Option.bind_eq_some_iff.mp H
   obtain ⟨t429, A90, H⟩ := H
   replace H : (fullerref11_Node.j0 k l1 ((l1.length : Int) != t429) a0_0 l0_1 l0_2) = some (r1, r2) := H
   have A9 := Aside0.mk A90
   clear A90
   have H' := Aside0.mk H
   clear H
   have hcz10_0 := hc_ BK427 0
   have hcz10_1 := hc_ BK427 1
   have hcz10_2 := hc_ BK427 2
   have hfz10_0 := blk_frozen BK427.out 0
   have hfz10_1 := blk_frozen BK427.out 1
   have hfz10_2 := blk_frozen BK427.out 2
   go_wp2_with (first | (go_at_call 25; (with_reducible refine (fullerref10_Arity.calls k a0_0 t429 _ A9.out).mono ?_); rintro e w' ⟨rfl, ⟨nd, rfl⟩⟩))
   go_meet
   case rel => exact ⟨_, (((l1.length : Int) != t429)), (by first | rfl | (simp; done) | (simp [*]; done)), H', ⟨by first | omega | exact Nat.le_refl _⟩, ⟨mvV_ HO1.out⟩, ⟨mvV_ HO0_2.out⟩, ⟨by (with_reducible repeat (first | refine blk_drewN ?_ _ | refine blk_drew ?_ | refine blk_alloc ?_ _)); exact BK427.out⟩, ⟨bq1_ HB.out GE427.out⟩⟩
  ·replace c8 := Bool.eq_false_iff.mpr c8
   subst c8
   have H1 : (fullerref11_Node.j0 k l1 true a0_0 l0_1 l0_2) = some (r1, r2) := by rw [if_neg (show ¬ (false = true) by decide)] at H; exact H
   clear H
   have H := H1
   clear H1
   have H' := Aside0.mk H
   clear H
   go_wp2
   go_meet
   case rel => exact ⟨_, (true), (by first | rfl | (simp; done) | (simp [*]; done)), H', ⟨by first | omega | exact Nat.le_refl _⟩, ⟨mvV_ HO1.out⟩, ⟨mvV_ HO0_2.out⟩, ⟨by (with_reducible repeat (first | refine blk_drewN ?_ _ | refine blk_drew ?_ | refine blk_alloc ?_ _)); exact BK427.out⟩, ⟨bq1_ HB.out GE427.out⟩⟩
 case rest =>
  clear HC4
  try clear c1
  try clear c2
  try clear p2
  try clear c8
  try clear hcz10_0
  try clear hcz10_1
  try clear hcz10_2
  try clear hcz6_0
  try clear hcz6_1
  try clear hcz6_2
  try clear hfz10_0
  try clear hfz10_1
  try clear hfz10_2
  try clear hfz6_0
  try clear hfz6_1
  try clear hfz6_2
  obtain ⟨kq, x22_3, rfl, HA, HJ3, HO_1, HO_428002, BK427, HB⟩ := hcut
  cases kq with
  | zero => exact absurd HA.out (by simp [fullerref11_Node.j0])
  | succ kj3 =>
   have H := HA.out
   clear HA
   simp only [fullerref11_Node.j0] at H
   by_cases c11 : x22_3 = true
   ·subst c11
    have H1 : (some (([] : List Int), 20)) = some (r1, r2) := by rw [if_pos rfl] at H; exact H
    clear H
    have H := H1
    clear H1
    simp only [Option.some.injEq, Prod.mk.injEq] at H
    obtain ⟨rfl, rfl⟩ := H
    go_wp2
    go_ret2
    exact ⟨_, by first | rfl | (simp <;> rfl) | (simp [*] <;> rfl), (Kd.V_nil _ _ _ _ _), bq1_ HB.out GE427.out⟩
   ·replace c11 := Bool.eq_false_iff.mpr c11
    subst c11
    have H1 : (fullerref11_Node.l0 kj3 l1 0 a0_0 l0_1 l0_2) = some (r1, r2) := by rw [if_neg (show ¬ (false = true) by decide)] at H; exact H
    clear H
    have H := H1
    clear H1
    have H' := Aside0.mk H
    clear H
    go_wp2
    go_loopg [7] kj3 (fun kq v7 w' => ∃ (x7_2 : Int), v7 = .int .i64 x7_2 ∧ Aside0 (fullerref11_Node.l0 kq l1 x7_2 a0_0 l0_1 l0_2 = some (r1, r2)) ∧ Aside0 (kq ≤ kj3) ∧ Aside0 (Kd.V (Kd.slice 3 (Kd.int .i64)) 23 w' w.heap.size (fun k_ => ((P0_2_ k_ ∨ P1_ k_) ∨ w.heap.size ≤ k_) ∧ k_ ≠ gb427) (.slice A1 l1.length c1) l1) ∧ Aside0 (Kd.V (Kd.int .i64) 3 w' w.heap.size (fun k_ => ((P0_2_ k_ ∨ P1_ k_) ∨ w.heap.size ≤ k_) ∧ k_ ≠ gb427) (.slice A0_2 l0_2.length c0_2) l0_2) ∧ Aside0 (w'.heap[gb427]? = some (.cells #[.int .i64 a0_0, (.slice A0_1 l0_1.length c0_1), (.slice A0_2 l0_2.length c0_2)] 25 (0, 0))) ∧ Aside0 (Below w.heap.size w w'))
    case atStart => exact ⟨(0), (by first | rfl | (simp; done) | (simp [*]; done)), H', ⟨Nat.le_refl _⟩, ⟨mvV_ HO_1.out⟩, ⟨mvV_ HO_428002.out⟩, ⟨by (with_reducible repeat (first | refine blk_drewN ?_ _ | refine blk_drew ?_ | refine blk_alloc ?_ _)); exact BK427.out⟩, ⟨bq1_ HB.out GE427.out⟩⟩
    case round =>
     clear H'
     try clear c1
     try clear c2
     try clear p2
     try clear c8
     try clear c11
     try clear hcz10_0
     try clear hcz10_1
     try clear hcz10_2
     try clear hcz6_0
     try clear hcz6_1
     try clear hcz6_2
     try clear hfz10_0
     try clear hfz10_1
     try clear hfz10_2
     try clear hfz6_0
     try clear hfz6_1
     try clear hfz6_2
     try clear p2
     obtain ⟨x7_2, rfl, HA, HK2, HO_1, HO_428002, BK427, HB⟩ := hrel
     cases gk with
     | zero => exact absurd HA.out (by simp [fullerref11_Node.l0])
     | succ k2 =>
      have H := HA.out
      clear HA
      simp only [fullerref11_Node.l0] at H
      by_cases c12 : x7_2 < (l1.length : Int)
      ·rw [if_pos c12] at H
       have c12b0 : decide (x7_2 < (l1.length : Int)) = true := decide_eq_true c12
       clear c12
       by_cases c13 : 0 ≤ x7_2
       ·rw [if_pos c13] at H
        have c13b0 : decide (0 ≤ x7_2) = true := decide_eq_true c13
        clear c13
        replace H := Option.bind_eq_some_iff.mp H
        obtain ⟨t431, A140, H⟩ := H
        replace H : (if t431 = true then (fullerref11_Node.l0 k2 l1 (wrap64 (x7_2 + 1)) a0_0 l0_1 l0_2) else (some (([] : List Int), 20))) = some (r1, r2) := H
        have A14 := Aside0.mk A140
        clear A140
        by_cases c15 : t431 = true
        ·subst c15
         have H1 : (fullerref11_Node.l0 k2 l1 (wrap64 (x7_2 + 1)) a0_0 l0_1 l0_2) = some (r1, r2) := by rw [if_pos rfl] at H; exact H
         clear H
         have H := H1
         clear H1
         have H' := Aside0.mk H
         clear H
         have p430 : 0 ≤ (x7_2 : Int) := od_
         have q430 : x7_2 < (l1.length : Int) := od_
         obtain ⟨ad430, A430_0, c430_0, e430, hx430_0, hl430_0, hi430_0⟩ := at_L1 (Kd.V_reads' HO_1.out).2.2 x7_2 p430 q430
         cases e430
         obtain ⟨ce430, hce430, hMe430, hcc430⟩ := Kd.V_get HO_1.out [] x7_2 p430 (by first | exact q430 | exact od_ | (have e_ := (Kd.V_reads' HO_1.out).1; omega))
         obtain ⟨ua430_0, uc430_0, rfl, ul430_0, ge430_0⟩ := Kd.FK_slice_open hMe430
         have hv430_0 := hcc430 0 _ rfl
         rw [Nat.add_zero, show ((Kd.slice 3 (Kd.int .i64))).sz = 1 from rfl, Nat.mul_one] at hv430_0
         replace hv430_0 := Option.some.inj (hv430_0.symm.trans hx430_0)
         injection hv430_0 with hva_ hvn_ hvc_
         rw [hva_] at ge430_0
         rw [hvc_] at ul430_0
         have HL430_0 := Aside0.mk (show Kd.V (Kd.int .i64) 3 _ w.heap.size _ _ (rd_L1 l1 x7_2) from Kd.V_mk ul430_0 ge430_0)
         clear hva_ hvn_ hvc_ ge430_0 ul430_0 hcc430 hce430
         have HR430_0 := Aside0.mk hi430_0
         have HC430_0 := Aside0.mk hl430_0
         clear hi430_0 hl430_0
         replace p430 := eq_true p430
         replace q430 := eq_true q430
         go_wp2_with (first | ((with_reducible refine gate_callee (f := 26) rfl ?_); refine gL_ (some 33) Try.func26 #[.slice A430_0 (rd_L1 l1 x7_2).length c430_0] ?_; (with_reducible refine (fullerref02_Check.calls k2 _ _ (rd_L1 l1 x7_2) true _ ?side1 ?side2 A14.out).mono ?_); (case side1 => repeat (first | exact (by repeat (first | (with_reducible exact HR430_0.out) | (with_reducible refine Kd.C_alloc ?_ _) | (with_reducible refine Kd.C_drewN ?_ _) | (with_reducible refine Kd.C_drew ?_) | exact HR430_0.out)) | (with_reducible refine Kd.C_alloc ?_ _) | (with_reducible refine Kd.C_drewN ?_ _) | (with_reducible refine Kd.C_drew ?_))); (case side2 => exact HC430_0.out); rintro e w' ⟨rfl, ⟨nd, rfl⟩⟩; refine ⟨_, rfl, ?_⟩))
         go_roundg k2
         case measure => have := HJ3.out; have := HK2.out; omega
         case rel => exact ⟨(wrap64 (x7_2 + 1)), (by first | rfl | (simp; done) | (simp [*]; done)), H', ⟨by have := HJ3.out; have := HK2.out; omega⟩, ⟨mvV_ HO_1.out⟩, ⟨mvV_ HO_428002.out⟩, ⟨by (with_reducible repeat (first | refine blk_drewN ?_ _ | refine blk_drew ?_ | refine blk_alloc ?_ _)); exact BK427.out⟩, ⟨bq1_ HB.out GE427.out⟩⟩
        ·replace c15 := Bool.eq_false_iff.mpr c15
         subst c15
         have H1 : (some (([] : List Int), 20)) = some (r1, r2) := by rw [if_neg (show ¬ (false = true) by decide)] at H; exact H
         clear H
         have H := H1
         clear H1
         simp only [Option.some.injEq, Prod.mk.injEq] at H
         obtain ⟨rfl, rfl⟩ := H
         have p430 : 0 ≤ (x7_2 : Int) := od_
         have q430 : x7_2 < (l1.length : Int) := od_
         obtain ⟨ad430, A430_0, c430_0, e430, hx430_0, hl430_0, hi430_0⟩ := at_L1 (Kd.V_reads' HO_1.out).2.2 x7_2 p430 q430
         cases e430
         obtain ⟨ce430, hce430, hMe430, hcc430⟩ := Kd.V_get HO_1.out [] x7_2 p430 (by first | exact q430 | exact od_ | (have e_ := (Kd.V_reads' HO_1.out).1; omega))
         obtain ⟨ua430_0, uc430_0, rfl, ul430_0, ge430_0⟩ := Kd.FK_slice_open hMe430
         have hv430_0 := hcc430 0 _ rfl
         rw [Nat.add_zero, show ((Kd.slice 3 (Kd.int .i64))).sz = 1 from rfl, Nat.mul_one] at hv430_0
         replace hv430_0 := Option.some.inj (hv430_0.symm.trans hx430_0)
         injection hv430_0 with hva_ hvn_ hvc_
         rw [hva_] at ge430_0
         rw [hvc_] at ul430_0
         have HL430_0 := Aside0.mk (show Kd.V (Kd.int .i64) 3 _ w.heap.size _ _ (rd_L1 l1 x7_2) from Kd.V_mk ul430_0 ge430_0)
         clear hva_ hvn_ hvc_ ge430_0 ul430_0 hcc430 hce430
         have HR430_0 := Aside0.mk hi430_0
         have HC430_0 := Aside0.mk hl430_0
         clear hi430_0 hl430_0
         replace p430 := eq_true p430
         replace q430 := eq_true q430
         go_wp2_with (first | ((with_reducible refine gate_callee (f := 26) rfl ?_); refine gL_ (some 33) Try.func26 #[.slice A430_0 (rd_L1 l1 x7_2).length c430_0] ?_; (with_reducible refine (fullerref02_Check.calls k2 _ _ (rd_L1 l1 x7_2) false _ ?side1 ?side2 A14.out).mono ?_); (case side1 => repeat (first | exact (by repeat (first | (with_reducible exact HR430_0.out) | (with_reducible refine Kd.C_alloc ?_ _) | (with_reducible refine Kd.C_drewN ?_ _) | (with_reducible refine Kd.C_drew ?_) | exact HR430_0.out)) | (with_reducible refine Kd.C_alloc ?_ _) | (with_reducible refine Kd.C_drewN ?_ _) | (with_reducible refine Kd.C_drew ?_))); (case side2 => exact HC430_0.out); rintro e w' ⟨rfl, ⟨nd, rfl⟩⟩; refine ⟨_, rfl, ?_⟩))
         go_ret2
         exact ⟨_, by first | rfl | (simp <;> rfl) | (simp [*] <;> rfl), (Kd.V_nil _ _ _ _ _), bq1_ HB.out GE427.out⟩
       ·rw [if_neg c13] at H
        exact absurd H (by simp)
      ·rw [if_neg c12] at H
       have c12b0 : decide (x7_2 < (l1.length : Int)) = false := decide_eq_false c12
       clear c12
       by_cases c16 : a0_0 = 1
       ·rw [if_pos c16] at H
        obtain ⟨c16b0, c16b1⟩ := eqT_ c16
        clear c16
        simp only [Option.some.injEq, Prod.mk.injEq] at H
        obtain ⟨rfl, rfl⟩ := H
        have hcz17_0 := hc_ BK427 0
        have hcz17_1 := hc_ BK427 1
        have hcz17_2 := hc_ BK427 2
        have hfz17_0 := blk_frozen BK427.out 0
        have hfz17_1 := blk_frozen BK427.out 1
        have hfz17_2 := blk_frozen BK427.out 2
        go_wp2
        go_ret2
        exact ⟨_, by first | rfl | (simp <;> rfl) | (simp [*] <;> rfl), by (with_reducible repeat (first | apply Kd.V_alloc | apply Kd.V_drewN | apply Kd.V_drew)); exact Kd.V_mono HO_428002.out (fun _ hk => hk.1), bq1_ HB.out GE427.out⟩
       ·rw [if_neg c16] at H
        have c16b0 : (a0_0 == 1) = false := beq_eq_false_iff_ne.mpr c16
        have c16b1 : (a0_0 != 1) = true := bne_iff_ne.mpr c16
        by_cases c18 : a0_0 = 2
        ·rw [if_pos c18] at H
         obtain ⟨c18b0, c18b1⟩ := eqT_ c18
         clear c18
         by_cases c19 : 1 ≤ (l0_2.length : Int)
         ·rw [if_pos c19] at H
          have c19b0 := eq_true c19
          have c19b1 : decide (1 ≤ (l0_2.length : Int)) = true := decide_eq_true c19
          clear c19
          obtain ⟨y432, hy432⟩ : ∃ y_ : List Int, y_ = (l0_2.drop 1) := ⟨_, rfl⟩
          replace H : (some (y432, 0)) = some (r1, r2) := by first | (rw [hy432]; with_reducible exact H) | (have H2_ := (Option.bind_some _ _).symm.trans H; rw [hy432]; with_reducible exact H2_) | (have H2_ := (Option.bind_some _ _).symm.trans H; with_reducible exact H2_) | with_reducible exact H | (rw [hy432]; exact H) | exact H
          have Ny432 := Aside0.mk hy432
          clear hy432
          simp only [Option.some.injEq, Prod.mk.injEq] at H
          obtain ⟨rfl, rfl⟩ := H
          have hcz20_0 := hc_ BK427 0
          have hcz20_1 := hc_ BK427 1
          have hcz20_2 := hc_ BK427 2
          have hfz20_0 := blk_frozen BK427.out 0
          have hfz20_1 := blk_frozen BK427.out 1
          have hfz20_2 := blk_frozen BK427.out 2
          have q21 : (1 : Int) ≤ ((l0_2.length : Int) : Int) := od_
          obtain ⟨i021, hi021, _, hsz21, _⟩ := info_parts info3
          have hroom21 : l0_2.length ≤ c0_2 := (Kd.V_reads' HO_428002.out).2.1
          have hC21 : Kd.F (Kd.int .i64) _ _ A0_2 l0_2.length l0_2 := (Kd.V_at (base := w.heap.size) HO_428002.out).2.2
          have hcut21 := cut_from (P := Try.prog) 23 3 .i64 Try.underlying23 hi021 1 hsz21 A0_2 l0_2.length c0_2 1 (by omega) q21
          have hr21 := Kd.F_cut (m := (1 : Int).toNat) (c := c0_2) hC21 (by omega) hroom21
          obtain ⟨A21, hA21⟩ : ∃ A1, A1 = (if c0_2 = (1 : Int).toNat then A0_2 else (A0_2 : Option Addr).map (·.add ((1 : Int).toNat * 1))) := ⟨_, rfl⟩
          obtain ⟨c21, hc21⟩ : ∃ c1, c1 = c0_2 - (1 : Int).toNat := ⟨_, rfl⟩
          have hy21 : y432.length = l0_2.length - (1 : Int).toNat := (by rw [Ny432.out, List.length_drop] <;> omega)
          rw [show (l0_2).drop (1 : Int).toNat = y432 from Ny432.out.symm] at hr21
          replace hr21 : Kd.F (Kd.int .i64) _ _ A21 y432.length y432 := (by rw [hA21]; exact hr21)
          rw [← hy21, ← hA21, ← hc21] at hcut21
          have HO436 := Aside0.mk (show Kd.V (Kd.int .i64) 3 _ w.heap.size _ (.slice A21 y432.length c21) y432 from Kd.V_mk (by rw [hy21, hc21]; exact Nat.sub_le_sub_right hroom21 _) hr21)
          have HC436 := Aside0.mk (show y432.length ≤ c21 from by rw [hy21, hc21]; exact Nat.sub_le_sub_right hroom21 _)
          clear hr21 hC21 hroom21 hi021 hsz21 hc21
          have KY21 := Aside0.mk hy21
          have KA21 := Aside0.mk hA21
          clear hy21 hA21
          replace q21 := eq_true q21
          go_wp2
          go_ret2
          exact ⟨_, by first | rfl | (simp <;> rfl) | (simp [*] <;> rfl), by (with_reducible repeat (first | apply Kd.V_alloc | apply Kd.V_drewN | apply Kd.V_drew)); exact Kd.V_mono HO436.out (fun _ hk => hk.1), bq1_ HB.out GE427.out⟩
         ·rw [if_neg c19] at H
          exact absurd H (by simp)
        ·rw [if_neg c18] at H
         have c18b0 : (a0_0 == 2) = false := beq_eq_false_iff_ne.mpr c18
         have c18b1 : (a0_0 != 2) = true := bne_iff_ne.mpr c18
         by_cases c22 : a0_0 = 3
         ·rw [if_pos c22] at H
          obtain ⟨c22b0, c22b1⟩ := eqT_ c22
          clear c22
          simp only [Option.some.injEq, Prod.mk.injEq] at H
          obtain ⟨rfl, rfl⟩ := H
          have hcz23_0 := hc_ BK427 0
          have hcz23_1 := hc_ BK427 1
          have hcz23_2 := hc_ BK427 2
          have hfz23_0 := blk_frozen BK427.out 0
          have hfz23_1 := blk_frozen BK427.out 1
          have hfz23_2 := blk_frozen BK427.out 2
          go_wp2
          go_ret2
          exact ⟨_, by first | rfl | (simp <;> rfl) | (simp [*] <;> rfl), (Kd.V_nil _ _ _ _ _), bq1_ HB.out GE427.out⟩
         ·rw [if_neg c22] at H
          have c22b0 : (a0_0 == 3) = false := beq_eq_false_iff_ne.mpr c22
          have c22b1 : (a0_0 != 3) = true := bne_iff_ne.mpr c22
          have HC24 := Aside0.mk H
          clear H
          have hcz25_0 := hc_ BK427 0
          have hcz25_1 := hc_ BK427 1
          have hcz25_2 := hc_ BK427 2
          have hfz25_0 := blk_frozen BK427.out 0
          have hfz25_1 := blk_frozen BK427.out 1
          have hfz25_2 := blk_frozen BK427.out 2
          go_upto_if 49 with (fail)
          go_cut [49] (fun v49 wc => ∃ (kq : Nat) (x49_23 : Bool), v49 = .bool x49_23 ∧ Aside0 (fullerref11_Node.j2 kq l1 a0_0 x49_23 a0_0 l0_1 l0_2 = some (r1, r2)) ∧ Aside0 (kq ≤ k2) ∧ Aside0 (Kd.V (Kd.slice 3 (Kd.int .i64)) 23 wc w.heap.size (fun k_ => ((P0_2_ k_ ∨ P1_ k_) ∨ w.heap.size ≤ k_) ∧ k_ ≠ gb427) (.slice A1 l1.length c1) l1) ∧ Aside0 (Kd.V (Kd.int .i64) 3 wc w.heap.size (fun k_ => ((P0_2_ k_ ∨ P1_ k_) ∨ w.heap.size ≤ k_) ∧ k_ ≠ gb427) (.slice A0_2 l0_2.length c0_2) l0_2) ∧ Aside0 (wc.heap[gb427]? = some (.cells #[.int .i64 a0_0, (.slice A0_1 l0_1.length c0_1), (.slice A0_2 l0_2.length c0_2)] 25 (0, 0))) ∧ Aside0 (Below w.heap.size w wc))
          case first =>
           have H := HC24.out
           clear HC24
           by_cases c26 : a0_0 = 10
           ·rw [if_pos c26] at H
            obtain ⟨c26b0, c26b1⟩ := eqT_ c26
            clear c26
            (first | rw [c26b0] | (simp only [i64_w, i32_w]; rw [c26b0]) | skip)
            have H' := Aside0.mk H
            clear H
            go_wp2
            go_meet
            case rel => exact ⟨_, ((a0_0 == 10)), (by first | rfl | (simp; done) | (simp [*]; done)), H', ⟨by have := HJ3.out; have := HK2.out; first | omega | exact Nat.le_refl _⟩, ⟨mvV_ HO_1.out⟩, ⟨mvV_ HO_428002.out⟩, ⟨by (with_reducible repeat (first | refine blk_drewN ?_ _ | refine blk_drew ?_ | refine blk_alloc ?_ _)); exact BK427.out⟩, ⟨bq1_ HB.out GE427.out⟩⟩
           ·rw [if_neg c26] at H
            have c26b0 : (a0_0 == 10) = false := beq_eq_false_iff_ne.mpr c26
            have c26b1 : (a0_0 != 10) = true := bne_iff_ne.mpr c26
            (first | rw [c26b0] | (simp only [i64_w, i32_w]; rw [c26b0]) | skip)
            by_cases c27 : a0_0 = 11
            ·rw [if_pos c27] at H
             obtain ⟨c27b0, c27b1⟩ := eqT_ c27
             clear c27
             have H' := Aside0.mk H
             clear H
             go_wp2
             go_meet
             case rel => exact ⟨_, ((a0_0 == 11)), (by first | rfl | (simp; done) | (simp [*]; done)), H', ⟨by have := HJ3.out; have := HK2.out; first | omega | exact Nat.le_refl _⟩, ⟨mvV_ HO_1.out⟩, ⟨mvV_ HO_428002.out⟩, ⟨by (with_reducible repeat (first | refine blk_drewN ?_ _ | refine blk_drew ?_ | refine blk_alloc ?_ _)); exact BK427.out⟩, ⟨bq1_ HB.out GE427.out⟩⟩
            ·rw [if_neg c27] at H
             have c27b0 : (a0_0 == 11) = false := beq_eq_false_iff_ne.mpr c27
             have c27b1 : (a0_0 != 11) = true := bne_iff_ne.mpr c27
             by_cases c28 : a0_0 = 12
             ·rw [if_pos c28] at H
              obtain ⟨c28b0, c28b1⟩ := eqT_ c28
              clear c28
              have H' := Aside0.mk H
              clear H
              go_wp2
              go_meet
              case rel => exact ⟨_, ((a0_0 == 12)), (by first | rfl | (simp; done) | (simp [*]; done)), H', ⟨by have := HJ3.out; have := HK2.out; first | omega | exact Nat.le_refl _⟩, ⟨mvV_ HO_1.out⟩, ⟨mvV_ HO_428002.out⟩, ⟨by (with_reducible repeat (first | refine blk_drewN ?_ _ | refine blk_drew ?_ | refine blk_alloc ?_ _)); exact BK427.out⟩, ⟨bq1_ HB.out GE427.out⟩⟩
             ·rw [if_neg c28] at H
              have c28b0 : (a0_0 == 12) = false := beq_eq_false_iff_ne.mpr c28
              have c28b1 : (a0_0 != 12) = true := bne_iff_ne.mpr c28
              have H' := Aside0.mk H
              clear H
              go_wp2
              go_meet
              case rel => exact ⟨_, ((a0_0 == 13)), (by first | rfl | (simp; done) | (simp [*]; done)), H', ⟨by have := HJ3.out; have := HK2.out; first | omega | exact Nat.le_refl _⟩, ⟨mvV_ HO_1.out⟩, ⟨mvV_ HO_428002.out⟩, ⟨by (with_reducible repeat (first | refine blk_drewN ?_ _ | refine blk_drew ?_ | refine blk_alloc ?_ _)); exact BK427.out⟩, ⟨bq1_ HB.out GE427.out⟩⟩
          case rest =>
           clear HC24
           try clear c1
           try clear c2
           try clear p2
           try clear q2
           try clear c4
           try clear p4
           try clear q4
           try clear hx4
           try clear p6
           try clear c8
           try clear c11
           try clear c12
           try clear c12b0
           try clear c13
           try clear c13b0
           try clear c15
           try clear c16
           try clear c16b0
           try clear c16b1
           try clear c18
           try clear c18b0
           try clear c18b1
           try clear c19
           try clear c19b0
           try clear c19b1
           try clear c21
           try clear q21
           try clear c22
           try clear c22b0
           try clear c22b1
           try clear c24
           try clear c26
           try clear c26b0
           try clear c26b1
           try clear c27
           try clear c27b0
           try clear c27b1
           try clear c28
           try clear c28b0
           try clear c28b1
           try clear hcz10_0
           try clear hcz10_1
           try clear hcz10_2
           try clear hcz17_0
           try clear hcz17_1
           try clear hcz17_2
           try clear hcz20_0
           try clear hcz20_1
           try clear hcz20_2
           try clear hcz23_0
           try clear hcz23_1
           try clear hcz23_2
           try clear hcz25_0
           try clear hcz25_1
           try clear hcz25_2
           try clear hcz6_0
           try clear hcz6_1
           try clear hcz6_2
           try clear hfz10_0
           try clear hfz10_1
           try clear hfz10_2
           try clear hfz17_0
           try clear hfz17_1
           try clear hfz17_2
           try clear hfz20_0
           try clear hfz20_1
           try clear hfz20_2
           try clear hfz23_0
           try clear hfz23_1
           try clear hfz23_2
           try clear hfz25_0
           try clear hfz25_1
           try clear hfz25_2
           try clear hfz6_0
           try clear hfz6_1
           try clear hfz6_2
           try clear hx430_0
           try clear p2
           try clear p430
           try clear q21
           try clear q430
           obtain ⟨kq, x49_23, rfl, HA, HJ23, HO_1, HO_428002, BK427, HB⟩ := hcut
           cases kq with
           | zero => exact absurd HA.out (by simp [fullerref11_Node.j2])
           | succ kj23 =>
            have H := HA.out
            clear HA
            simp only [fullerref11_Node.j2] at H
            by_cases c29 : x49_23 = true
            ·subst c29
             have H1 : (if 0 < (l1.length : Int) then (if 1 < (l1.length : Int) then ((fullerref02_Join.f kj23 (rd_L1 l1 0) (rd_L1 l1 1)).bind fun bt439 => (some (bt439.1, bt439.2))) else (none)) else (none)) = some (r1, r2) := by rw [if_pos rfl] at H; exact H
             clear H
             have H := H1
             clear H1
             by_cases c30 : 0 < (l1.length : Int)
             ·rw [if_pos c30] at H
              have c30b0 : decide (0 < (l1.length : Int)) = true := decide_eq_true c30
              have c30b1 : decide (0 < l1.length) = true := decide_eq_true (by omega)
              clear c30
              by_cases c31 : 1 < (l1.length : Int)
              ·rw [if_pos c31] at H
               have c31b0 : decide (1 < (l1.length : Int)) = true := decide_eq_true c31
               have c31b1 : decide (1 < l1.length) = true := decide_eq_true (by omega)
               clear c31
               replace H := Option.bind_eq_some_iff.mp H
               obtain ⟨⟨t439, t440⟩, A320, H⟩ := H
               replace H : (some (t439, t440)) = some (r1, r2) := H
               have A32 := Aside0.mk A320
               clear A320
               simp only [Option.some.injEq, Prod.mk.injEq] at H
               obtain ⟨rfl, rfl⟩ := H
               try go_wp2
               replace HO_1 := Aside0.mk (Kd.V_drew HO_1.out)
               replace HO_428002 := Aside0.mk (Kd.V_drew HO_428002.out)
               replace BK427 := Aside0.mk (blk_drew BK427.out)
               replace HB := Aside0.mk (below_drew1 HB.out)
               have p437 : 0 ≤ (0 : Int) := (by omega)
               have q437 : 0 < (l1.length : Int) := od_
               obtain ⟨ad437, A437_0, c437_0, e437, hx437_0, hl437_0, hi437_0⟩ := at_L1 (Kd.V_reads' HO_1.out).2.2 0 p437 q437
               cases e437
               obtain ⟨ce437, hce437, hMe437, hcc437⟩ := Kd.V_get HO_1.out [] 0 p437 (by first | exact q437 | exact od_ | (have e_ := (Kd.V_reads' HO_1.out).1; omega))
               obtain ⟨ua437_0, uc437_0, rfl, ul437_0, ge437_0⟩ := Kd.FK_slice_open hMe437
               have hv437_0 := hcc437 0 _ rfl
               rw [Nat.add_zero, show ((Kd.slice 3 (Kd.int .i64))).sz = 1 from rfl, Nat.mul_one] at hv437_0
               replace hv437_0 := Option.some.inj (hv437_0.symm.trans hx437_0)
               injection hv437_0 with hva_ hvn_ hvc_
               rw [hva_] at ge437_0
               rw [hvc_] at ul437_0
               have HL437_0 := Aside0.mk (show Kd.V (Kd.int .i64) 3 _ w.heap.size _ _ (rd_L1 l1 0) from Kd.V_mk ul437_0 ge437_0)
               clear hva_ hvn_ hvc_ ge437_0 ul437_0 hcc437 hce437
               have qi437 : (0 < l1.length) = True := eq_true (by omega)
               (try rw [show ((0 : Int)).toNat = 0 from rfl] at hx437_0)
               (try rw [Addr.add_zero'] at hx437_0)
               have HR437_0 := Aside0.mk hi437_0
               have HC437_0 := Aside0.mk hl437_0
               clear hi437_0 hl437_0
               replace p437 := eq_true p437
               replace q437 := eq_true q437
               have p438 : 0 ≤ (1 : Int) := (by omega)
               have q438 : 1 < (l1.length : Int) := od_
               obtain ⟨ad438, A438_0, c438_0, e438, hx438_0, hl438_0, hi438_0⟩ := at_L1 (Kd.V_reads' HO_1.out).2.2 1 p438 q438
               obtain rfl : ad437 = ad438 := (by injection e438)
               obtain ⟨ce438, hce438, hMe438, hcc438⟩ := Kd.V_get HO_1.out [] 1 p438 (by first | exact q438 | exact od_ | (have e_ := (Kd.V_reads' HO_1.out).1; omega))
               obtain ⟨ua438_0, uc438_0, rfl, ul438_0, ge438_0⟩ := Kd.FK_slice_open hMe438
               have hv438_0 := hcc438 0 _ rfl
               rw [Nat.add_zero, show ((Kd.slice 3 (Kd.int .i64))).sz = 1 from rfl, Nat.mul_one] at hv438_0
               replace hv438_0 := Option.some.inj (hv438_0.symm.trans hx438_0)
               injection hv438_0 with hva_ hvn_ hvc_
               rw [hva_] at ge438_0
               rw [hvc_] at ul438_0
               have HL438_0 := Aside0.mk (show Kd.V (Kd.int .i64) 3 _ w.heap.size _ _ (rd_L1 l1 1) from Kd.V_mk ul438_0 ge438_0)
               clear hva_ hvn_ hvc_ ge438_0 ul438_0 hcc438 hce438
               (try simp only [show (1 : Int).toNat = 1 from rfl, Nat.reduceMul, Nat.reduceEqDiff, Go.Addr.add, ↓reduceIte] at hx438_0)
               have qi438 : (1 < l1.length) = True := eq_true (by omega)
               (try rw [show ((1 : Int)).toNat = 1 from rfl] at hx438_0)
               have HR438_0 := Aside0.mk hi438_0
               have HC438_0 := Aside0.mk hl438_0
               clear hi438_0 hl438_0
               replace p438 := eq_true p438
               replace q438 := eq_true q438
               refine start_ (n := 11) (S := fun w' => w'.cell? ad437 = some (.slice A437_0 (rd_L1 l1 0).length c437_0) ∧ w'.cell? ⟨ad437.block, ad437.off + 1, none⟩ = some (.slice A438_0 (rd_L1 l1 1).length c438_0)) (ds := []) L12_0 (by kernel_rfl) rfl rfl ⟨hx437_0, hx438_0⟩ (fun hHeld => ?_); refine with_tabW fullerref11_Node.tab21 fullerref11_Node.bits21 (fun HT_ HW_ => ?_)
               generalize wc.drew = w33 at HO_1 HO_428002 BK427 HB HL437_0 HL438_0 HR437_0 HR438_0 hx437_0 hx438_0 hHeld ⊢
               refine pu_ 0 (some 54) L12_1 HT_ ?_
               refine pu_ 1 (some 55) L12_2 HT_ ?_
               refine pu_ 3 (some 57) L12_3 HT_ ?_
               refine pu_ 4 (some 58) L12_4 HT_ ?_
               refine ta_ 2 (some 56) L12_5 HT_ HW_ hHeld ?_ (hy := by rintro w' ⟨s0, s1⟩; go_simp; with_reducible rfl)
               refine ta_ 5 (some 59) L12_6 HT_ HW_ hHeld ?_ (hy := by rintro w' ⟨s0, s1⟩; go_simp; with_reducible rfl)
               refine one_ (i := 6) (N := some 60) L12_7 rfl rfl (one_of HT_.out (by kernel_rfl)) (by decide) (fun K hK => ?_)
               refine goes_ Try.func27 (by kernel_rfl) rfl #[.slice A437_0 (rd_L1 l1 0).length c437_0, .slice A438_0 (rd_L1 l1 1).length c438_0] (by rfl) rfl rfl (by (try simp only [List.map_toArray, List.map_cons, List.map_nil]); first | done | rfl | (simp only [List.length_drop, List.length_take]; rfl)) ?_
               with_reducible refine (fullerref02_Join.calls kj23 _ _ (rd_L1 l1 0) _ _ (rd_L1 l1 1) t439 t440 _ ?side1 ?side2 ?side3 ?side4 A32.out).mono ?_
               (case side1 => repeat (first | exact (by repeat (first | (with_reducible exact HR437_0.out) | (with_reducible refine Kd.C_alloc ?_ _) | (with_reducible refine Kd.C_drewN ?_ _) | (with_reducible refine Kd.C_drew ?_) | exact HR437_0.out)) | (with_reducible refine Kd.C_alloc ?_ _) | (with_reducible refine Kd.C_drewN ?_ _) | (with_reducible refine Kd.C_drew ?_)))
               (case side2 => exact HC437_0.out)
               (case side3 => repeat (first | exact (by repeat (first | (with_reducible exact HR438_0.out) | (with_reducible refine Kd.C_alloc ?_ _) | (with_reducible refine Kd.C_drewN ?_ _) | (with_reducible refine Kd.C_drew ?_) | exact HR438_0.out)) | (with_reducible refine Kd.C_alloc ?_ _) | (with_reducible refine Kd.C_drewN ?_ _) | (with_reducible refine Kd.C_drew ?_)))
               (case side4 => exact HC438_0.out)
               rintro e w34 ⟨v441, rfl, ho0, hb⟩
               have HS0_ := (hb.cell (World.block_lt_of_cell? _ _ (hHeld.1))).trans (hHeld.1)
               have HS1_ := (hb.cell (World.block_lt_of_cell? _ _ (hHeld.2))).trans (hHeld.2)
               refine ⟨_, rfl, ?_⟩
               have HO442 := Aside0.mk (Kd.R_lower (Kd.R_newM (M := fun k_ => (w.heap.size ≤ k_)) ho0 (below_size (bq1_ HB.out GE427.out)) (fun k_ h_ => h_)) (below_size (bq1_ HB.out GE427.out)))
               replace HO_1 := Aside0.mk (Kd.V_elder' (mvV_ HO_1.out) (Kd.R_base ho0) hb)
               replace HO_428002 := Aside0.mk (Kd.V_elder' (mvV_ HO_428002.out) (Kd.R_base ho0) hb)
               replace HL437_0 := Aside0.mk (Kd.V_elder' (mvV_ HL437_0.out) (Kd.R_base ho0) hb)
               replace HL438_0 := Aside0.mk (Kd.V_elder' (mvV_ HL438_0.out) (Kd.R_base ho0) hb)
               replace BK427 := Aside0.mk (blk_below (g := gb427) (o := .cells #[.int .i64 a0_0, .slice A0_1 l0_1.length c0_1, .slice A0_2 l0_2.length c0_2] 25 (0, 0)) (mvK_ BK427.out) hb)
               replace HR437_0 := Aside0.mk (Kd.C_below (by repeat (first | (with_reducible exact HR437_0.out) | (with_reducible refine Kd.C_alloc ?_ _) | (with_reducible refine Kd.C_drewN ?_ _) | (with_reducible refine Kd.C_drew ?_) | exact HR437_0.out)) hb)
               replace HR438_0 := Aside0.mk (Kd.C_below (by repeat (first | (with_reducible exact HR438_0.out) | (with_reducible refine Kd.C_alloc ?_ _) | (with_reducible refine Kd.C_drewN ?_ _) | (with_reducible refine Kd.C_drew ?_) | exact HR438_0.out)) hb)
               replace HB := Aside0.mk (below_step (bq1_ HB.out GE427.out) hb)
               (try clear hb)
               (try clear hb2)
               (try clear hk)
               (try clear hi)
               (try clear ho0)
               refine hK.out _ _ ⟨HS0_, HS1_⟩ (fun hHeld => ?_)
               clear hK K
               refine norm_ (a' := ?_) ?_ ?_
               rotate_left
               ·show Act.put _ (some 60) _ = _
                simp only [Act.put, sA_, sB_, sC_, i64_w, i32_w]
                rfl
               refine pu_ 7 (some 61) L12_8 HT_ ?_
               refine pu_ 8 (some 62) L12_9 HT_ ?_
               refine pu_ 9 (some 4) L12_10 HT_ ?_
               refine pu_ 10 (some 5) L12_11 HT_ ?_
               refine done_ (done_of HT_.out (by kernel_rfl)) ?_
               try go_wp2
               go_ret2
               exact ⟨_, by first | rfl | (simp <;> rfl) | (simp [*] <;> rfl), Kd.V_mono (Kd.R_V (by (with_reducible repeat (first | apply Kd.R_alloc | apply Kd.R_drewN | apply Kd.R_drew)); exact Kd.R_mono HO442.out (fun _ hk => hk.1))) (fun k_ hk => by first | exact ⟨(.inr (hk.1)), hk.2⟩ | exact (.inr (hk))), bq1_ HB.out GE427.out⟩
              ·rw [if_neg c31] at H
               exact absurd H (by simp)
             ·rw [if_neg c30] at H
              exact absurd H (by simp)
            ·replace c29 := Bool.eq_false_iff.mpr c29
             subst c29
             have H1 : (if a0_0 = 20 then (fullerref11_Node.j3 kj23 l1 a0_0 (a0_0 == 20) a0_0 l0_1 l0_2) else (if a0_0 = 21 then (fullerref11_Node.j3 kj23 l1 a0_0 (a0_0 == 21) a0_0 l0_1 l0_2) else (if a0_0 = 22 then (fullerref11_Node.j3 kj23 l1 a0_0 (a0_0 == 22) a0_0 l0_1 l0_2) else (fullerref11_Node.j3 kj23 l1 a0_0 (a0_0 == 23) a0_0 l0_1 l0_2)))) = some (r1, r2) := by rw [if_neg (show ¬ (false = true) by decide)] at H; exact H
             clear H
             have H := H1
             clear H1
             have HC35 := Aside0.mk H
             clear H
             go_upto_if 63 with (fail)
             go_cut [63] (fun v63 wc => ∃ (kq : Nat) (x63_34 : Bool), v63 = .bool x63_34 ∧ Aside0 (fullerref11_Node.j3 kq l1 a0_0 x63_34 a0_0 l0_1 l0_2 = some (r1, r2)) ∧ Aside0 (kq ≤ kj23) ∧ Aside0 (Kd.V (Kd.slice 3 (Kd.int .i64)) 23 wc w.heap.size (fun k_ => ((P0_2_ k_ ∨ P1_ k_) ∨ w.heap.size ≤ k_) ∧ k_ ≠ gb427) (.slice A1 l1.length c1) l1) ∧ Aside0 (Kd.V (Kd.int .i64) 3 wc w.heap.size (fun k_ => ((P0_2_ k_ ∨ P1_ k_) ∨ w.heap.size ≤ k_) ∧ k_ ≠ gb427) (.slice A0_2 l0_2.length c0_2) l0_2) ∧ Aside0 (wc.heap[gb427]? = some (.cells #[.int .i64 a0_0, (.slice A0_1 l0_1.length c0_1), (.slice A0_2 l0_2.length c0_2)] 25 (0, 0))) ∧ Aside0 (Below w.heap.size w wc))
             case first =>
              have H := HC35.out
              clear HC35
              by_cases c36 : a0_0 = 20
              ·rw [if_pos c36] at H
               obtain ⟨c36b0, c36b1⟩ := eqT_ c36
               clear c36
               (first | rw [c36b0] | (simp only [i64_w, i32_w]; rw [c36b0]) | skip)
               have H' := Aside0.mk H
               clear H
               go_wp2
               go_meet
               case rel => exact ⟨_, ((a0_0 == 20)), (by first | rfl | (simp; done) | (simp [*]; done)), H', ⟨by have := HJ3.out; have := HK2.out; have := HJ23.out; first | omega | exact Nat.le_refl _⟩, ⟨mvV_ HO_1.out⟩, ⟨mvV_ HO_428002.out⟩, ⟨by (with_reducible repeat (first | refine blk_drewN ?_ _ | refine blk_drew ?_ | refine blk_alloc ?_ _)); exact BK427.out⟩, ⟨bq1_ HB.out GE427.out⟩⟩
              ·rw [if_neg c36] at H
               have c36b0 : (a0_0 == 20) = false := beq_eq_false_iff_ne.mpr c36
               have c36b1 : (a0_0 != 20) = true := bne_iff_ne.mpr c36
               (first | rw [c36b0] | (simp only [i64_w, i32_w]; rw [c36b0]) | skip)
               by_cases c37 : a0_0 = 21
               ·rw [if_pos c37] at H
                obtain ⟨c37b0, c37b1⟩ := eqT_ c37
                clear c37
                have H' := Aside0.mk H
                clear H
                go_wp2
                go_meet
                case rel => exact ⟨_, ((a0_0 == 21)), (by first | rfl | (simp; done) | (simp [*]; done)), H', ⟨by have := HJ3.out; have := HK2.out; have := HJ23.out; first | omega | exact Nat.le_refl _⟩, ⟨mvV_ HO_1.out⟩, ⟨mvV_ HO_428002.out⟩, ⟨by (with_reducible repeat (first | refine blk_drewN ?_ _ | refine blk_drew ?_ | refine blk_alloc ?_ _)); exact BK427.out⟩, ⟨bq1_ HB.out GE427.out⟩⟩
               ·rw [if_neg c37] at H
                have c37b0 : (a0_0 == 21) = false := beq_eq_false_iff_ne.mpr c37
                have c37b1 : (a0_0 != 21) = true := bne_iff_ne.mpr c37
                by_cases c38 : a0_0 = 22
                ·rw [if_pos c38] at H
                 obtain ⟨c38b0, c38b1⟩ := eqT_ c38
                 clear c38
                 have H' := Aside0.mk H
                 clear H
                 go_wp2
                 go_meet
                 case rel => exact ⟨_, ((a0_0 == 22)), (by first | rfl | (simp; done) | (simp [*]; done)), H', ⟨by have := HJ3.out; have := HK2.out; have := HJ23.out; first | omega | exact Nat.le_refl _⟩, ⟨mvV_ HO_1.out⟩, ⟨mvV_ HO_428002.out⟩, ⟨by (with_reducible repeat (first | refine blk_drewN ?_ _ | refine blk_drew ?_ | refine blk_alloc ?_ _)); exact BK427.out⟩, ⟨bq1_ HB.out GE427.out⟩⟩
                ·rw [if_neg c38] at H
                 have c38b0 : (a0_0 == 22) = false := beq_eq_false_iff_ne.mpr c38
                 have c38b1 : (a0_0 != 22) = true := bne_iff_ne.mpr c38
                 have H' := Aside0.mk H
                 clear H
                 go_wp2
                 go_meet
                 case rel => exact ⟨_, ((a0_0 == 23)), (by first | rfl | (simp; done) | (simp [*]; done)), H', ⟨by have := HJ3.out; have := HK2.out; have := HJ23.out; first | omega | exact Nat.le_refl _⟩, ⟨mvV_ HO_1.out⟩, ⟨mvV_ HO_428002.out⟩, ⟨by (with_reducible repeat (first | refine blk_drewN ?_ _ | refine blk_drew ?_ | refine blk_alloc ?_ _)); exact BK427.out⟩, ⟨bq1_ HB.out GE427.out⟩⟩
             case rest =>
              clear HC35
              try clear c1
              try clear c2
              try clear p2
              try clear q2
              try clear c3
              try clear c4
              try clear p4
              try clear q4
              try clear hx4
              try clear qi4
              try clear p6
              try clear c8
              try clear c11
              try clear c12
              try clear c12b0
              try clear c13
              try clear c13b0
              try clear c15
              try clear c16
              try clear c16b0
              try clear c16b1
              try clear c18
              try clear c18b0
              try clear c18b1
              try clear c19
              try clear c19b0
              try clear c19b1
              try clear c21
              try clear q21
              try clear c22
              try clear c22b0
              try clear c22b1
              try clear c24
              try clear c26
              try clear c26b0
              try clear c26b1
              try clear c27
              try clear c27b0
              try clear c27b1
              try clear c28
              try clear c28b0
              try clear c28b1
              try clear c29
              try clear c30
              try clear c30b0
              try clear c30b1
              try clear c31
              try clear c31b0
              try clear c31b1
              try clear c36
              try clear c36b0
              try clear c36b1
              try clear c37
              try clear c37b0
              try clear c37b1
              try clear c38
              try clear c38b0
              try clear c38b1
              try clear hcz10_0
              try clear hcz10_1
              try clear hcz10_2
              try clear hcz17_0
              try clear hcz17_1
              try clear hcz17_2
              try clear hcz20_0
              try clear hcz20_1
              try clear hcz20_2
              try clear hcz23_0
              try clear hcz23_1
              try clear hcz23_2
              try clear hcz25_0
              try clear hcz25_1
              try clear hcz25_2
              try clear hcz6_0
              try clear hcz6_1
              try clear hcz6_2
              try clear hfz10_0
              try clear hfz10_1
              try clear hfz10_2
              try clear hfz17_0
              try clear hfz17_1
              try clear hfz17_2
              try clear hfz20_0
              try clear hfz20_1
              try clear hfz20_2
              try clear hfz23_0
              try clear hfz23_1
              try clear hfz23_2
              try clear hfz25_0
              try clear hfz25_1
              try clear hfz25_2
              try clear hfz6_0
              try clear hfz6_1
              try clear hfz6_2
              try clear hx430_0
              try clear hx437_0
              try clear hx438_0
              try clear p2
              try clear p4
              try clear p430
              try clear p437
              try clear p438
              try clear p6
              try clear q2
              try clear q21
              try clear q4
              try clear q430
              try clear q437
              try clear q438
              obtain ⟨kq, x63_34, rfl, HA, HJ34, HO_1, HO_428002, BK427, HB⟩ := hcut
              cases kq with
              | zero => exact absurd HA.out (by simp [fullerref11_Node.j3])
              | succ kj34 =>
               have H := HA.out
               clear HA
               simp only [fullerref11_Node.j3] at H
               by_cases c39 : x63_34 = true
               ·subst c39
                have H1 : (if 0 < (l1.length : Int) then (some (rd_L1 l1 0, 0)) else (none)) = some (r1, r2) := by rw [if_pos rfl] at H; exact H
                clear H
                have H := H1
                clear H1
                by_cases c40 : 0 < (l1.length : Int)
                ·rw [if_pos c40] at H
                 have c40b0 : decide (0 < (l1.length : Int)) = true := decide_eq_true c40
                 have c40b1 : decide (0 < l1.length) = true := decide_eq_true (by omega)
                 clear c40
                 simp only [Option.some.injEq, Prod.mk.injEq] at H
                 obtain ⟨rfl, rfl⟩ := H
                 have p443 : 0 ≤ (0 : Int) := (by omega)
                 have q443 : 0 < (l1.length : Int) := od_
                 obtain ⟨ad443, A443_0, c443_0, e443, hx443_0, hl443_0, hi443_0⟩ := at_L1 (Kd.V_reads' HO_1.out).2.2 0 p443 q443
                 cases e443
                 obtain ⟨ce443, hce443, hMe443, hcc443⟩ := Kd.V_get HO_1.out [] 0 p443 (by first | exact q443 | exact od_ | (have e_ := (Kd.V_reads' HO_1.out).1; omega))
                 obtain ⟨ua443_0, uc443_0, rfl, ul443_0, ge443_0⟩ := Kd.FK_slice_open hMe443
                 have hv443_0 := hcc443 0 _ rfl
                 rw [Nat.add_zero, show ((Kd.slice 3 (Kd.int .i64))).sz = 1 from rfl, Nat.mul_one] at hv443_0
                 replace hv443_0 := Option.some.inj (hv443_0.symm.trans hx443_0)
                 injection hv443_0 with hva_ hvn_ hvc_
                 rw [hva_] at ge443_0
                 rw [hvc_] at ul443_0
                 have HL443_0 := Aside0.mk (show Kd.V (Kd.int .i64) 3 _ w.heap.size _ _ (rd_L1 l1 0) from Kd.V_mk ul443_0 ge443_0)
                 clear hva_ hvn_ hvc_ ge443_0 ul443_0 hcc443 hce443
                 have qi443 : (0 < l1.length) = True := eq_true (by omega)
                 (try rw [show ((0 : Int)).toNat = 0 from rfl] at hx443_0)
                 (try rw [Addr.add_zero'] at hx443_0)
                 have HR443_0 := Aside0.mk hi443_0
                 have HC443_0 := Aside0.mk hl443_0
                 clear hi443_0 hl443_0
                 replace p443 := eq_true p443
                 replace q443 := eq_true q443
                 go_wp2
                 go_ret2
                 exact ⟨_, by first | rfl | (simp <;> rfl) | (simp [*] <;> rfl), by (with_reducible repeat (first | apply Kd.V_alloc | apply Kd.V_drewN | apply Kd.V_drew)); exact Kd.V_mono HL443_0.out (fun _ hk => hk.1), bq1_ HB.out GE427.out⟩
                ·rw [if_neg c40] at H
                 exact absurd H (by simp)
               ·replace c39 := Bool.eq_false_iff.mpr c39
                subst c39
                have H1 : (if a0_0 = 40 then ((fullerref02_Size.f kj34 l0_2).bind fun t444 => (if 0 < (l1.length : Int) then ((fullerref02_Size.f kj34 (rd_L1 l1 0)).bind fun t446 => ((fullerref11_told.f kj34 l0_2 (t444 == t446)).bind fun bt447 => (some (bt447.1, bt447.2)))) else (none))) else (if a0_0 = 41 then (if 0 < (l1.length : Int) then (fullerref11_Node.l1 kj34 l1 ([] : List Int) (wrap64 (((rd_L1 l1 0).length : Int) - 1))) else (none)) else ((fullerref11_more.f kj34 a0_0 l0_1 l0_2 l1).bind fun bt457 => (some (bt457.1, bt457.2))))) = some (r1, r2) := by rw [if_neg (show ¬ (false = true) by decide)] at H; exact H
                clear H
                have H := H1
                clear H1
                by_cases c41 : a0_0 = 40
                ·rw [if_pos c41] at H
                 obtain ⟨c41b0, c41b1⟩ := eqT_ c41
                 clear c41
                 replace H := Option.bind_eq_some_iff.mp H
                 obtain ⟨t444, A420, H⟩ := H
                 replace H : (if 0 < (l1.length : Int) then ((fullerref02_Size.f kj34 (rd_L1 l1 0)).bind fun t446 => ((fullerref11_told.f kj34 l0_2 (t444 == t446)).bind fun bt447 => (some (bt447.1, bt447.2)))) else (none)) = some (r1, r2) := H
                 have A42 := Aside0.mk A420
                 clear A420
                 by_cases c43 : 0 < (l1.length : Int)
                 ·rw [if_pos c43] at H
                  have c43b0 : decide (0 < (l1.length : Int)) = true := decide_eq_true c43
                  have c43b1 : decide (0 < l1.length) = true := decide_eq_true (by omega)
                  clear c43
                  replace H := Option.bind_eq_some_iff.mp H
                  obtain ⟨t446, A440, H⟩ := H
                  replace H : ((fullerref11_told.f kj34 l0_2 (t444 == t446)).bind fun bt447 => (some (bt447.1, bt447.2))) = some (r1, r2) := H
                  have A44 := Aside0.mk A440
                  clear A440
                  replace H := Option.bind_eq_some_iff.mp H
                  obtain ⟨⟨t447, t450⟩, A450, H⟩ := H
                  replace H : (some (t447, t450)) = some (r1, r2) := H
                  have A45 := Aside0.mk A450
                  clear A450
                  simp only [Option.some.injEq, Prod.mk.injEq] at H
                  obtain ⟨rfl, rfl⟩ := H
                  try go_wp2
                  replace HO_1 := Aside0.mk (Kd.V_drew HO_1.out)
                  replace HO_428002 := Aside0.mk (Kd.V_drew HO_428002.out)
                  replace BK427 := Aside0.mk (blk_drew BK427.out)
                  replace HB := Aside0.mk (below_drew1 HB.out)
                  have p445 : 0 ≤ (0 : Int) := (by omega)
                  have q445 : 0 < (l1.length : Int) := od_
                  obtain ⟨ad445, A445_0, c445_0, e445, hx445_0, hl445_0, hi445_0⟩ := at_L1 (Kd.V_reads' HO_1.out).2.2 0 p445 q445
                  cases e445
                  obtain ⟨ce445, hce445, hMe445, hcc445⟩ := Kd.V_get HO_1.out [] 0 p445 (by first | exact q445 | exact od_ | (have e_ := (Kd.V_reads' HO_1.out).1; omega))
                  obtain ⟨ua445_0, uc445_0, rfl, ul445_0, ge445_0⟩ := Kd.FK_slice_open hMe445
                  have hv445_0 := hcc445 0 _ rfl
                  rw [Nat.add_zero, show ((Kd.slice 3 (Kd.int .i64))).sz = 1 from rfl, Nat.mul_one] at hv445_0
                  replace hv445_0 := Option.some.inj (hv445_0.symm.trans hx445_0)
                  injection hv445_0 with hva_ hvn_ hvc_
                  rw [hva_] at ge445_0
                  rw [hvc_] at ul445_0
                  have HL445_0 := Aside0.mk (show Kd.V (Kd.int .i64) 3 _ w.heap.size _ _ (rd_L1 l1 0) from Kd.V_mk ul445_0 ge445_0)
                  clear hva_ hvn_ hvc_ ge445_0 ul445_0 hcc445 hce445
                  have qi445 : (0 < l1.length) = True := eq_true (by omega)
                  (try rw [show ((0 : Int)).toNat = 0 from rfl] at hx445_0)
                  (try rw [Addr.add_zero'] at hx445_0)
                  have HR445_0 := Aside0.mk hi445_0
                  have HC445_0 := Aside0.mk hl445_0
                  clear hi445_0 hl445_0
                  replace p445 := eq_true p445
                  replace q445 := eq_true q445
                  refine start_ (n := 15) (S := fun w' => w'.cell? ⟨gb427, 0, none⟩ = some (.int .i64 a0_0) ∧ w'.cell? ⟨gb427, 1, none⟩ = some (.slice A0_1 l0_1.length c0_1) ∧ w'.cell? ⟨gb427, 2, none⟩ = some (.slice A0_2 l0_2.length c0_2) ∧ w'.cell? ad445 = some (.slice A445_0 (rd_L1 l1 0).length c445_0)) (ds := []) L12_12 (by kernel_rfl) rfl rfl ⟨(blk_cell BK427.out 0).trans rfl, (blk_cell BK427.out 1).trans rfl, (blk_cell BK427.out 2).trans rfl, hx445_0⟩ (fun hHeld => ?_); refine with_tabW fullerref11_Node.tab28 fullerref11_Node.bits28 (fun HT_ HW_ => ?_)
                  generalize wc.drew = w46 at HO_1 HO_428002 BK427 HB HL445_0 HR445_0 hx445_0 hHeld ⊢
                  refine pu_ 0 (some 73) L12_13 HT_ ?_
                  refine pu_ 2 (some 75) L12_14 HT_ ?_
                  refine pu_ 5 (some 78) L12_15 HT_ ?_
                  refine pu_ 6 (some 79) L12_16 HT_ ?_
                  refine ta_ 1 (some 74) L12_17 HT_ HW_ hHeld ?_ (hy := by rintro w' ⟨s0, s1, s2, s3⟩; go_simp; with_reducible rfl)
                  refine ta_ 3 (some 76) L12_18 HT_ HW_ hHeld ?_ (hy := by rintro w' ⟨s0, s1, s2, s3⟩; go_simp; with_reducible rfl)
                  refine ta_ 7 (some 80) L12_19 HT_ HW_ hHeld ?_ (hy := by rintro w' ⟨s0, s1, s2, s3⟩; go_simp; with_reducible rfl)
                  refine one_ (i := 4) (N := some 77) L12_20 rfl rfl (one_of HT_.out (by kernel_rfl)) (by decide) (fun K hK => ?_)
                  refine goes_ Try.func29 (by kernel_rfl) rfl #[.slice A0_2 l0_2.length c0_2] (by rfl) rfl rfl (by (try simp only [List.map_toArray, List.map_cons, List.map_nil]); first | done | rfl | (simp only [List.length_drop, List.length_take]; rfl)) ?_
                  with_reducible refine (fullerref02_Size.calls kj34 _ _ l0_2 t444 _ ?side1 ?side2 A42.out).mono ?_
                  (case side1 => exact mvC_ ((Kd.V_reads' HO_428002.out).2.2))
                  (case side2 => exact (Kd.V_reads' HO_428002.out).2.1)
                  rintro e w' ⟨rfl, ⟨nd, rfl⟩⟩
                  refine ⟨_, rfl, ?_⟩
                  refine hK.out _ _ ⟨(blk_cell BK427.out 0).trans rfl, (blk_cell BK427.out 1).trans rfl, (blk_cell BK427.out 2).trans rfl, hHeld.2.2.2⟩ (fun hHeld => ?_)
                  clear hK K
                  refine norm_ (a' := ?_) ?_ ?_
                  rotate_left
                  ·show Act.put _ (some 77) _ = _
                   simp only [Act.put, sA_, sB_, sC_, i64_w, i32_w]
                   rfl
                  refine one_ (i := 8) (N := some 81) L12_21 rfl rfl (one_of HT_.out (by kernel_rfl)) (by decide) (fun K hK => ?_)
                  refine goes_ Try.func29 (by kernel_rfl) rfl #[.slice A445_0 (rd_L1 l1 0).length c445_0] (by rfl) rfl rfl (by (try simp only [List.map_toArray, List.map_cons, List.map_nil]); first | done | rfl | (simp only [List.length_drop, List.length_take]; rfl)) ?_
                  with_reducible refine (fullerref02_Size.calls kj34 _ _ (rd_L1 l1 0) t446 _ ?side1 ?side2 A44.out).mono ?_
                  (case side1 => repeat (first | exact (by repeat (first | (with_reducible exact HR445_0.out) | (with_reducible refine Kd.C_alloc ?_ _) | (with_reducible refine Kd.C_drewN ?_ _) | (with_reducible refine Kd.C_drew ?_) | exact HR445_0.out)) | (with_reducible refine Kd.C_alloc ?_ _) | (with_reducible refine Kd.C_drewN ?_ _) | (with_reducible refine Kd.C_drew ?_)))
                  (case side2 => exact HC445_0.out)
                  rintro e w' ⟨rfl, ⟨nd, rfl⟩⟩
                  refine ⟨_, rfl, ?_⟩
                  refine hK.out _ _ ⟨(blk_cell BK427.out 0).trans rfl, (blk_cell BK427.out 1).trans rfl, (blk_cell BK427.out 2).trans rfl, hHeld.2.2.2⟩ (fun hHeld => ?_)
                  clear hK K
                  refine norm_ (a' := ?_) ?_ ?_
                  rotate_left
                  ·show Act.put _ (some 81) _ = _
                   simp only [Act.put, sA_, sB_, sC_, i64_w, i32_w]
                   rfl
                  refine pu_ 9 (some 82) L12_22 HT_ ?_
                  refine one_ (i := 10) (N := some 83) L12_23 rfl rfl (one_of HT_.out (by kernel_rfl)) (by decide) (fun K hK => ?_)
                  refine goes_ Try.func28 (by kernel_rfl) rfl #[.slice A0_2 l0_2.length c0_2, .bool (t444 == t446)] (by rfl) rfl rfl (by (try simp only [List.map_toArray, List.map_cons, List.map_nil]); first | done | rfl | (simp only [List.length_drop, List.length_take]; rfl)) ?_
                  with_reducible refine (fullerref11_told.calls kj34 (fun k_ => (((P0_2_ k_ ∨ P1_ k_) ∨ w.heap.size ≤ k_) ∧ k_ ≠ gb427)) _ _ l0_2 (t444 == t446) t447 t450 _ ?side1 A45.out).mono ?_
                  (case side1 => first | exact HO_428002.out | exact Kd.V_mono HO_428002.out (fun _ h_ => by simpa only [and_assoc, and_comm, and_left_comm] using h_))
                  rintro e w47 ⟨v448, rfl, ho0, hb⟩
                  have HS3_ := (hb.cell (World.block_lt_of_cell? _ _ (hHeld.2.2.2))).trans (hHeld.2.2.2)
                  refine ⟨_, rfl, ?_⟩
                  have HO449 := Aside0.mk (Kd.V_lower (Kd.V_mono (ok' := fun k_ => ((P0_2_ k_ ∨ P1_ k_) ∨ w.heap.size ≤ k_) ∧ k_ ≠ gb427) ho0 (fun k_ hk_ => ⟨Or.elim hk_ (fun hs_ => hs_.1) (fun hn_ => (.inr (Nat.le_trans (below_size (bq1_ HB.out GE427.out)) hn_))), Or.elim hk_ (fun hs_ => hs_.2) (fun hn_ => (Kd.freshB (g := gb427) (o := .cells #[.int .i64 a0_0, .slice A0_1 l0_1.length c0_1, .slice A0_2 l0_2.length c0_2] 25 (0, 0)) (mvK_ BK427.out) k_ hn_))⟩)) (below_size (bq1_ HB.out GE427.out)))
                  replace HO_1 := Aside0.mk (Kd.V_below (mvV_ HO_1.out) hb)
                  replace HO_428002 := Aside0.mk (Kd.V_below (mvV_ HO_428002.out) hb)
                  replace HL445_0 := Aside0.mk (Kd.V_below (mvV_ HL445_0.out) hb)
                  replace BK427 := Aside0.mk (blk_below (g := gb427) (o := .cells #[.int .i64 a0_0, .slice A0_1 l0_1.length c0_1, .slice A0_2 l0_2.length c0_2] 25 (0, 0)) (mvK_ BK427.out) hb)
                  replace HR445_0 := Aside0.mk (Kd.C_below (by repeat (first | (with_reducible exact HR445_0.out) | (with_reducible refine Kd.C_alloc ?_ _) | (with_reducible refine Kd.C_drewN ?_ _) | (with_reducible refine Kd.C_drew ?_) | exact HR445_0.out)) hb)
                  replace HB := Aside0.mk (below_step (bq1_ HB.out GE427.out) hb)
                  (try clear hb)
                  (try clear hb2)
                  (try clear hk)
                  (try clear hi)
                  (try clear ho0)
                  refine hK.out _ _ ⟨(blk_cell BK427.out 0).trans rfl, (blk_cell BK427.out 1).trans rfl, (blk_cell BK427.out 2).trans rfl, HS3_⟩ (fun hHeld => ?_)
                  clear hK K
                  refine norm_ (a' := ?_) ?_ ?_
                  rotate_left
                  ·show Act.put _ (some 83) _ = _
                   simp only [Act.put, sA_, sB_, sC_, i64_w, i32_w]
                   rfl
                  refine pu_ 11 (some 84) L12_24 HT_ ?_
                  refine pu_ 12 (some 85) L12_25 HT_ ?_
                  refine pu_ 13 (some 4) L12_26 HT_ ?_
                  refine pu_ 14 (some 5) L12_27 HT_ ?_
                  refine done_ (done_of HT_.out (by kernel_rfl)) ?_
                  try go_wp2
                  go_ret2
                  exact ⟨_, by first | rfl | (simp <;> rfl) | (simp [*] <;> rfl), by (with_reducible repeat (first | apply Kd.V_alloc | apply Kd.V_drewN | apply Kd.V_drew)); exact Kd.V_mono HO449.out (fun _ hk => hk.1), bq1_ HB.out GE427.out⟩
                 ·rw [if_neg c43] at H
                  exact absurd H (by simp)
                ·rw [if_neg c41] at H
                 have c41b0 : (a0_0 == 40) = false := beq_eq_false_iff_ne.mpr c41
                 have c41b1 : (a0_0 != 40) = true := bne_iff_ne.mpr c41
                 by_cases c48 : a0_0 = 41
                 ·rw [if_pos c48] at H
                  obtain ⟨c48b0, c48b1⟩ := eqT_ c48
                  clear c48
                  by_cases c49 : 0 < (l1.length : Int)
                  ·rw [if_pos c49] at H
                   have c49b0 : decide (0 < (l1.length : Int)) = true := decide_eq_true c49
                   have c49b1 : decide (0 < l1.length) = true := decide_eq_true (by omega)
                   clear c49
                   have H' := Aside0.mk H
                   clear H
                   have p451 : 0 ≤ (0 : Int) := (by omega)
                   have q451 : 0 < (l1.length : Int) := od_
                   obtain ⟨ad451, A451_0, c451_0, e451, hx451_0, hl451_0, hi451_0⟩ := at_L1 (Kd.V_reads' HO_1.out).2.2 0 p451 q451
                   cases e451
                   obtain ⟨ce451, hce451, hMe451, hcc451⟩ := Kd.V_get HO_1.out [] 0 p451 (by first | exact q451 | exact od_ | (have e_ := (Kd.V_reads' HO_1.out).1; omega))
                   obtain ⟨ua451_0, uc451_0, rfl, ul451_0, ge451_0⟩ := Kd.FK_slice_open hMe451
                   have hv451_0 := hcc451 0 _ rfl
                   rw [Nat.add_zero, show ((Kd.slice 3 (Kd.int .i64))).sz = 1 from rfl, Nat.mul_one] at hv451_0
                   replace hv451_0 := Option.some.inj (hv451_0.symm.trans hx451_0)
                   injection hv451_0 with hva_ hvn_ hvc_
                   rw [hva_] at ge451_0
                   rw [hvc_] at ul451_0
                   have HL451_0 := Aside0.mk (show Kd.V (Kd.int .i64) 3 _ w.heap.size _ _ (rd_L1 l1 0) from Kd.V_mk ul451_0 ge451_0)
                   clear hva_ hvn_ hvc_ ge451_0 ul451_0 hcc451 hce451
                   have qi451 : (0 < l1.length) = True := eq_true (by omega)
                   (try rw [show ((0 : Int)).toNat = 0 from rfl] at hx451_0)
                   (try rw [Addr.add_zero'] at hx451_0)
                   have HR451_0 := Aside0.mk hi451_0
                   have HC451_0 := Aside0.mk hl451_0
                   clear hi451_0 hl451_0
                   replace p451 := eq_true p451
                   replace q451 := eq_true q451
                   go_wp2
                   go_loopg [9, 10] kj34 (fun kq v9 v10 w' => ∃ (x9_5 : List Int) (x10_5 : Int), v10 = .int .i64 x10_5 ∧ Aside0 (fullerref11_Node.l1 kq l1 x9_5 x10_5 = some (r1, r2)) ∧ Aside0 (kq ≤ kj34) ∧ Aside0 (Kd.V (Kd.slice 3 (Kd.int .i64)) 23 w' w.heap.size (fun k_ => ((P0_2_ k_ ∨ P1_ k_) ∨ w.heap.size ≤ k_) ∧ some k_ ≠ (v9 : Value).ownBlock ∧ k_ ≠ gb427) (.slice (some ad451) l1.length c1) l1) ∧ Aside0 (Kd.R (Kd.int .i64) 3 w' w.heap.size (fun k_ => (w.heap.size ≤ k_)) v9 x9_5) ∧ Aside0 (Kd.V (Kd.int .i64) 3 w' w.heap.size (fun k_ => ((P0_2_ k_ ∨ P1_ k_) ∨ w.heap.size ≤ k_) ∧ some k_ ≠ (v9 : Value).ownBlock ∧ k_ ≠ gb427) (.slice A0_2 l0_2.length c0_2) l0_2) ∧ Aside0 (w'.heap[gb427]? = some (.cells #[.int .i64 a0_0, (.slice A0_1 l0_1.length c0_1), (.slice A0_2 l0_2.length c0_2)] 25 (0, 0))) ∧ Aside0 (Below w.heap.size w w'))
                   case atStart => exact ⟨(([] : List Int)), (wrap64 (((rd_L1 l1 0).length : Int) - 1)), (by first | rfl | (simp; done) | (simp [*]; done)), H', ⟨Nat.le_refl _⟩, ⟨by (with_reducible repeat (first | apply Kd.V_alloc | apply Kd.V_drewN | apply Kd.V_drew)); exact Kd.V_mono HO_1.out (fun _ hk => ⟨hk.1, ⟨(by simp [Value.ownBlock]), hk.2⟩⟩)⟩, ⟨by first | exact Kd.R_nil _ _ _ _ _ | exact Kd.N_nil _ _ _ _ _ | exact Kd.V_nil _ _ _ _ _ | exact Kd.Q_nil _ _ _ _ _ | exact Kd.S_nil _ _ _ _ _⟩, ⟨by (with_reducible repeat (first | apply Kd.V_alloc | apply Kd.V_drewN | apply Kd.V_drew)); exact Kd.V_mono HO_428002.out (fun _ hk => ⟨hk.1, ⟨(by simp [Value.ownBlock]), hk.2⟩⟩)⟩, ⟨by (with_reducible repeat (first | refine blk_drewN ?_ _ | refine blk_drew ?_ | refine blk_alloc ?_ _)); exact BK427.out⟩, ⟨bq1_ HB.out GE427.out⟩⟩
                   case round =>
                    clear H'
                    try clear c1
                    try clear c2
                    try clear p2
                    try clear q2
                    try clear c3
                    try clear c4
                    try clear p4
                    try clear q4
                    try clear hx4
                    try clear qi4
                    try clear p6
                    try clear c8
                    try clear c11
                    try clear c12
                    try clear c12b0
                    try clear c13
                    try clear c13b0
                    try clear c15
                    try clear c16
                    try clear c16b0
                    try clear c16b1
                    try clear c18
                    try clear c18b0
                    try clear c18b1
                    try clear c19
                    try clear c19b0
                    try clear c19b1
                    try clear c21
                    try clear q21
                    try clear c22
                    try clear c22b0
                    try clear c22b1
                    try clear c24
                    try clear c26
                    try clear c26b0
                    try clear c26b1
                    try clear c27
                    try clear c27b0
                    try clear c27b1
                    try clear c28
                    try clear c28b0
                    try clear c28b1
                    try clear c29
                    try clear c30
                    try clear c30b0
                    try clear c30b1
                    try clear c31
                    try clear c31b0
                    try clear c31b1
                    try clear c36
                    try clear c36b0
                    try clear c36b1
                    try clear c37
                    try clear c37b0
                    try clear c37b1
                    try clear c38
                    try clear c38b0
                    try clear c38b1
                    try clear c39
                    try clear c40
                    try clear c40b0
                    try clear c40b1
                    try clear c41
                    try clear c41b0
                    try clear c41b1
                    try clear c43
                    try clear c43b0
                    try clear c43b1
                    try clear p43
                    try clear q43
                    try clear hx43
                    try clear c44
                    try clear p44
                    try clear q44
                    try clear hx44
                    try clear qi44
                    try clear c45
                    try clear p45
                    try clear q45
                    try clear hx45
                    try clear qi45
                    try clear c48
                    try clear c48b0
                    try clear c48b1
                    try clear c49
                    try clear c49b0
                    try clear c49b1
                    try clear hcz10_0
                    try clear hcz10_1
                    try clear hcz10_2
                    try clear hcz17_0
                    try clear hcz17_1
                    try clear hcz17_2
                    try clear hcz20_0
                    try clear hcz20_1
                    try clear hcz20_2
                    try clear hcz23_0
                    try clear hcz23_1
                    try clear hcz23_2
                    try clear hcz25_0
                    try clear hcz25_1
                    try clear hcz25_2
                    try clear hcz6_0
                    try clear hcz6_1
                    try clear hcz6_2
                    try clear hfz10_0
                    try clear hfz10_1
                    try clear hfz10_2
                    try clear hfz17_0
                    try clear hfz17_1
                    try clear hfz17_2
                    try clear hfz20_0
                    try clear hfz20_1
                    try clear hfz20_2
                    try clear hfz23_0
                    try clear hfz23_1
                    try clear hfz23_2
                    try clear hfz25_0
                    try clear hfz25_1
                    try clear hfz25_2
                    try clear hfz6_0
                    try clear hfz6_1
                    try clear hfz6_2
                    try clear hx430_0
                    try clear hx437_0
                    try clear hx438_0
                    try clear hx443_0
                    try clear hx445_0
                    try clear hx451_0
                    try clear p2
                    try clear p4
                    try clear p430
                    try clear p437
                    try clear p438
                    try clear p443
                    try clear p445
                    try clear p451
                    try clear p6
                    try clear q2
                    try clear q21
                    try clear q4
                    try clear q430
                    try clear q437
                    try clear q438
                    try clear q443
                    try clear q445
                    try clear q451
                    obtain ⟨x9_5, x10_5, rfl, HA, HK5, HO_1, HO_9, HO_428002, BK427, HB⟩ := hrel
                    cases gk with
                    | zero => exact absurd HA.out (by simp [fullerref11_Node.l1])
                    | succ k5 =>
                     have H := HA.out
                     clear HA
                     simp only [fullerref11_Node.l1] at H
                     by_cases c50 : x10_5 ≥ 0
                     ·rw [if_pos c50] at H
                      have c50b0 : decide (0 ≤ x10_5) = true := decide_eq_true c50
                      clear c50
                      by_cases c51 : 0 < (l1.length : Int)
                      ·rw [if_pos c51] at H
                       have c51b0 : decide (0 < (l1.length : Int)) = true := decide_eq_true c51
                       have c51b1 : decide (0 < l1.length) = true := decide_eq_true (by omega)
                       clear c51
                       by_cases c52 : 0 ≤ x10_5
                       ·rw [if_pos c52] at H
                        have c52b0 : decide (0 ≤ x10_5) = true := decide_eq_true c52
                        clear c52
                        by_cases c53 : x10_5 < ((rd_L1 l1 0).length : Int)
                        ·rw [if_pos c53] at H
                         have c53b0 : decide (x10_5 < ((rd_L1 l1 0).length : Int)) = true := decide_eq_true c53
                         clear c53
                         by_cases c54 : x9_5.length < 17592186044416
                         ·rw [if_pos c54] at H
                          have LMc54 := Aside0.mk c54
                          clear c54
                          obtain ⟨y454, hy454⟩ : ∃ y_ : List Int, y_ = (x9_5 ++ [rd (rd_L1 l1 0) x10_5]) := ⟨_, rfl⟩
                          replace H : (fullerref11_Node.l1 k5 l1 y454 (wrap64 (x10_5 - 1))) = some (r1, r2) := by first | (rw [hy454]; with_reducible exact H) | (have H2_ := (Option.bind_some _ _).symm.trans H; rw [hy454]; with_reducible exact H2_) | (have H2_ := (Option.bind_some _ _).symm.trans H; with_reducible exact H2_) | with_reducible exact H | (rw [hy454]; exact H) | exact H
                          have Ny454 := Aside0.mk hy454
                          clear hy454
                          have H' := Aside0.mk H
                          clear H
                          have p452 : 0 ≤ (0 : Int) := (by omega)
                          have q452 : 0 < (l1.length : Int) := od_
                          obtain ⟨ad452, A452_0, c452_0, e452, hx452_0, hl452_0, hi452_0⟩ := at_L1 (Kd.V_reads' HO_1.out).2.2 0 p452 q452
                          obtain rfl : ad451 = ad452 := (by injection e452)
                          obtain ⟨ce452, hce452, hMe452, hcc452⟩ := Kd.V_get HO_1.out [] 0 p452 (by first | exact q452 | exact od_ | (have e_ := (Kd.V_reads' HO_1.out).1; omega))
                          obtain ⟨ua452_0, uc452_0, rfl, ul452_0, ge452_0⟩ := Kd.FK_slice_open hMe452
                          have hv452_0 := hcc452 0 _ rfl
                          rw [Nat.add_zero, show ((Kd.slice 3 (Kd.int .i64))).sz = 1 from rfl, Nat.mul_one] at hv452_0
                          replace hv452_0 := Option.some.inj (hv452_0.symm.trans hx452_0)
                          injection hv452_0 with hva_ hvn_ hvc_
                          rw [hva_] at ge452_0
                          rw [hvc_] at ul452_0
                          have HL452_0 := Aside0.mk (show Kd.V (Kd.int .i64) 3 _ w.heap.size _ _ (rd_L1 l1 0) from Kd.V_mk ul452_0 ge452_0)
                          clear hva_ hvn_ hvc_ ge452_0 ul452_0 hcc452 hce452
                          have qi452 : (0 < l1.length) = True := eq_true (by omega)
                          (try rw [show ((0 : Int)).toNat = 0 from rfl] at hx452_0)
                          (try rw [Addr.add_zero'] at hx452_0)
                          have HR452_0 := Aside0.mk hi452_0
                          have HC452_0 := Aside0.mk hl452_0
                          clear hi452_0 hl452_0
                          replace p452 := eq_true p452
                          replace q452 := eq_true q452
                          have p453 : 0 ≤ (x10_5 : Int) := od_
                          have q453 : x10_5 < ((rd_L1 l1 0).length : Int) := od_
                          obtain ⟨ad453, e453, hx453_0⟩ := Kd.at_int (by repeat (first | (with_reducible exact HR452_0.out) | (with_reducible refine Kd.C_alloc ?_ _) | (with_reducible refine Kd.C_drewN ?_ _) | (with_reducible refine Kd.C_drew ?_) | exact HR452_0.out)) x10_5 p453 q453
                          cases e453
                          replace p453 := eq_true p453
                          replace q453 := eq_true q453
                          go_wp2_with (first | ((with_reducible refine gate_builtin (b := .append) (xs := #[.tmp 97, .tmp 104]) rfl ?_); (try (refine gate_guard (by rfl) ?_; dsimp only)); at_builtin; refine Kd.R_append (Kd.int .i64) (w0 := w) w.heap.size rfl (.tmp 97) (.tmp 104) 23 3 (.int .i64 0) 8 rfl Try.underlying23 info3 rfl (by decide) (by omega) u9 x9_5 (rd (rd_L1 l1 0) x10_5) [.int .i64 (rd (rd_L1 l1 0) x10_5)] (fun k_ => (w.heap.size ≤ k_)) (fun _ => False) rfl rfl ?aP (fun _ hk => hk.elim) ?aF ?aO ?aB ?aS ?aL ?_; (case aP => exact rfl); (case aB => exact (bq1_ HB.out GE427.out)); (case aF => exact (fun k_ hk => (Nat.le_trans (below_size (bq1_ HB.out GE427.out)) hk))); (case aO => exact (mvR_ HO_9.out)); (case aS => exact (below_size (bq1_ HB.out GE427.out))); (case aL => have := LMc54.out; omega); intro v455 w55 ho hb hg hat; rw [← Ny454.out] at ho; have HO456 := Aside0.mk (ho); replace HO_1 := Aside0.mk (Kd.V_afterv (ok := (fun k_ => ((P0_2_ k_ ∨ P1_ k_) ∨ w.heap.size ≤ k_) ∧ k_ ≠ gb427)) (by (with_reducible repeat (first | apply Kd.V_alloc | apply Kd.V_drewN | apply Kd.V_drew)); exact Kd.V_mono HO_1.out (fun _ hk => ⟨⟨hk.1, hk.2.2⟩, hk.2.1⟩)) hg hat); replace HO_428002 := Aside0.mk (Kd.V_afterv (ok := (fun k_ => ((P0_2_ k_ ∨ P1_ k_) ∨ w.heap.size ≤ k_) ∧ k_ ≠ gb427)) (by (with_reducible repeat (first | apply Kd.V_alloc | apply Kd.V_drewN | apply Kd.V_drew)); exact Kd.V_mono HO_428002.out (fun _ hk => ⟨⟨hk.1, hk.2.2⟩, hk.2.1⟩)) hg hat); replace BK427 := Aside0.mk (blk_grown (g := gb427) (o := .cells #[.int .i64 a0_0, .slice A0_1 l0_1.length c0_1, .slice A0_2 l0_2.length c0_2] 25 (0, 0)) (mvK_ BK427.out) hg (Kd.R_ne HO_9.out BK427.out (by decide))); replace HL452_0 := Aside0.mk (Kd.V_afterv (ok := (fun k_ => ((P0_2_ k_ ∨ P1_ k_) ∨ w.heap.size ≤ k_) ∧ k_ ≠ gb427)) (by (with_reducible repeat (first | apply Kd.V_alloc | apply Kd.V_drewN | apply Kd.V_drew)); exact Kd.V_mono HL452_0.out (fun _ hk => ⟨⟨hk.1, hk.2.2⟩, hk.2.1⟩)) hg hat); replace HB := Aside0.mk (hb); clear HO_9 ho hb hg hat))
                          go_roundg k5
                          case measure => have := HJ3.out; have := HK2.out; have := HJ23.out; have := HJ34.out; have := HK5.out; omega
                          case rel => exact ⟨(y454), (wrap64 (x10_5 - 1)), (by first | rfl | (simp; done) | (simp [*]; done)), H', ⟨by have := HJ3.out; have := HK2.out; have := HJ23.out; have := HJ34.out; have := HK5.out; omega⟩, ⟨by (with_reducible repeat (first | apply Kd.V_alloc | apply Kd.V_drewN | apply Kd.V_drew)); exact Kd.V_mono HO_1.out (fun _ hk => ⟨hk.1.1, ⟨hk.2, hk.1.2⟩⟩)⟩, ⟨mvR_ HO456.out⟩, ⟨by (with_reducible repeat (first | apply Kd.V_alloc | apply Kd.V_drewN | apply Kd.V_drew)); exact Kd.V_mono HO_428002.out (fun _ hk => ⟨hk.1.1, ⟨hk.2, hk.1.2⟩⟩)⟩, ⟨by (with_reducible repeat (first | refine blk_drewN ?_ _ | refine blk_drew ?_ | refine blk_alloc ?_ _)); exact BK427.out⟩, ⟨bq1_ HB.out GE427.out⟩⟩
                         ·rw [if_neg c54] at H
                          exact absurd H (by simp)
                        ·rw [if_neg c53] at H
                         exact absurd H (by simp)
                       ·rw [if_neg c52] at H
                        exact absurd H (by simp)
                      ·rw [if_neg c51] at H
                       exact absurd H (by simp)
                     ·rw [if_neg c50] at H
                      have c50b0 : decide (0 ≤ x10_5) = false := decide_eq_false c50
                      clear c50
                      simp only [Option.some.injEq, Prod.mk.injEq] at H
                      obtain ⟨rfl, rfl⟩ := H
                      go_wp2
                      go_ret2
                      exact ⟨_, by first | rfl | (simp <;> rfl) | (simp [*] <;> rfl), Kd.V_mono (Kd.R_V (mvR_ HO_9.out)) (fun k_ hk => by first | exact ⟨(.inr (hk.1)), hk.2⟩ | exact (.inr (hk))), bq1_ HB.out GE427.out⟩
                  ·rw [if_neg c49] at H
                   exact absurd H (by simp)
                 ·rw [if_neg c48] at H
                  have c48b0 : (a0_0 == 41) = false := beq_eq_false_iff_ne.mpr c48
                  have c48b1 : (a0_0 != 41) = true := bne_iff_ne.mpr c48
                  replace H := Option.bind_eq_some_iff.mp H
                  obtain ⟨⟨t457, t460⟩, A560, H⟩ := H
                  replace H : (some (t457, t460)) = some (r1, r2) := H
                  have A56 := Aside0.mk A560
                  clear A560
                  simp only [Option.some.injEq, Prod.mk.injEq] at H
                  obtain ⟨rfl, rfl⟩ := H
                  have hcz57_0 := hc_ BK427 0
                  have hcz57_1 := hc_ BK427 1
                  have hcz57_2 := hc_ BK427 2
                  have hfz57_0 := blk_frozen BK427.out 0
                  have hfz57_1 := blk_frozen BK427.out 1
                  have hfz57_2 := blk_frozen BK427.out 2
                  go_wp2_with (first | ((with_reducible refine gate_callee (f := 30) rfl ?_); refine gL_ (some 109) Try.func30 #[.agg #[.int .i64 a0_0, .slice A0_1 l0_1.length c0_1, .slice A0_2 l0_2.length c0_2], .slice A1 l1.length c1] ?_; (with_reducible refine (fullerref11_more.calls kj34 a0_0 _ _ l0_1 _ _ l0_2 _ _ l1 t457 t460 _ ?side1 ?side2 ?side3 ?side4 ?side5 ?side6 A56.out).mono ?_); (case side1 => exact mvC_ ((Kd.C_below HR0_1.out HB.out))); (case side2 => exact HC0_1.out); (case side3 => exact mvC_ ((Kd.V_reads' HO_428002.out).2.2)); (case side4 => exact (Kd.V_reads' HO_428002.out).2.1); (case side5 => exact mvC_ ((Kd.V_reads' HO_1.out).2.2)); (case side6 => exact (Kd.V_reads' HO_1.out).2.1); rintro e w58 ⟨v458, rfl, ho0, hb⟩; refine ⟨_, rfl, ?_⟩; have HO459 := Aside0.mk (Kd.V_lower (Kd.V_mono (ok' := fun k_ => ((P0_2_ k_ ∨ P1_ k_) ∨ w.heap.size ≤ k_) ∧ k_ ≠ gb427) ho0 (fun k_ hk_ => ⟨(.inr (Nat.le_trans (below_size (bq1_ HB.out GE427.out)) hk_)), (Kd.freshB (g := gb427) (o := .cells #[.int .i64 a0_0, .slice A0_1 l0_1.length c0_1, .slice A0_2 l0_2.length c0_2] 25 (0, 0)) (mvK_ BK427.out) k_ hk_)⟩)) (below_size (bq1_ HB.out GE427.out))); replace HO_1 := Aside0.mk (Kd.V_below (mvV_ HO_1.out) hb); replace HO_428002 := Aside0.mk (Kd.V_below (mvV_ HO_428002.out) hb); replace BK427 := Aside0.mk (blk_below (g := gb427) (o := .cells #[.int .i64 a0_0, .slice A0_1 l0_1.length c0_1, .slice A0_2 l0_2.length c0_2] 25 (0, 0)) (mvK_ BK427.out) hb); replace HB := Aside0.mk (below_step (bq1_ HB.out GE427.out) hb); (try clear hb); (try clear ho0)))
                  go_ret2
                  exact ⟨_, by first | rfl | (simp <;> rfl) | (simp [*] <;> rfl), by (with_reducible repeat (first | apply Kd.V_alloc | apply Kd.V_drewN | apply Kd.V_drew)); exact Kd.V_mono HO459.out (fun _ hk => hk.1), bq1_ HB.out GE427.out⟩
end Go.Proofs.Ytalmgghhpgfgoaa.A
