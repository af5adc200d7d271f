/- Lean functions that answer as the Go functions do, and the proofs that they do; no conditions. Written by this session's own driver: a scratch copy of the kit's print with the session's additions (wip/xprint). -/
import Derived.Test.YtalmgghhpgfgoaaAx0
import Derived.Test.YtalmgghhpgfgoaaAx1
import Derived.Test.YtalmgghhpgfgoaaAx2
import Derived.Test.YtalmgghhpgfgoaaAx9
import Derived.Test.YtalmgghhpgfgoaaAx10
namespace Go.Proofs.Ytalmgghhpgfgoaa.A
open Go.RowKit Go.Proofs.YtalmgghhpgfgoaaW.PrintWords Go.Proofs.YtalmgghhpgfgoaaW.PrintLast Go.Proofs.YtalmgghhpgfgoaaW.PrintMore
attribute [local go_sem] max2_int min2_int max_two min_two max_three min_three max_four min_four   -- for this text's walks alone
set_option linter.unusedVariables false
set_option linter.unusedSimpArgs false

def L7_0 : Array Bool := #[false, false, false, false, false, false, false, false, false, false, false, false, false, false, false]
def L7_1 : Array Bool := #[true, false, false, false, false, false, false, false, false, false, false, false, false, false, false]
def L7_2 : Array Bool := #[true, false, false, false, true, false, false, false, false, false, false, false, false, false, false]
def L7_3 : Array Bool := #[true, false, false, false, true, true, false, false, false, false, false, false, false, false, false]
def L7_4 : Array Bool := #[true, false, false, false, true, true, false, false, false, true, false, false, false, false, false]
def L7_5 : Array Bool := #[true, true, false, false, true, true, false, false, false, true, false, false, false, false, false]
def L7_6 : Array Bool := #[true, true, true, false, true, true, false, false, false, true, false, false, false, false, false]
def L7_7 : Array Bool := #[true, true, true, true, true, true, false, false, false, true, false, false, false, false, false]
def L7_8 : Array Bool := #[true, true, true, true, true, true, true, false, false, true, false, false, false, false, false]
def L7_9 : Array Bool := #[true, true, true, true, true, true, true, true, false, true, false, false, false, false, false]
def L7_10 : Array Bool := #[true, true, true, true, true, true, true, true, false, true, true, false, false, false, false]
def L7_11 : Array Bool := #[true, true, true, true, true, true, true, true, false, true, true, true, false, false, false]
def L7_12 : Array Bool := #[true, true, true, true, true, true, true, true, true, true, true, true, false, false, false]
def L7_13 : Array Bool := #[true, true, true, true, true, true, true, true, true, true, true, true, true, false, false]
def L7_14 : Array Bool := #[true, true, true, true, true, true, true, true, true, true, true, true, true, true, false]
def L7_15 : Array Bool := #[true, true, true, true, true, true, true, true, true, true, true, true, true, true, true]
/-! ### fullerlaw11_InferSame: function 7 -/
mutual
def fullerlaw11_InferSame.j0 : Nat → List (S25) → Int → Int → Bool → Bool → Option (Bool)
 | 0, _, _, _, _, _ => none
 | k + 1, x0, x1, x2, x7, x25 => if x25 = true then (some x7) else (fullerlaw11_InferSame.l0 k x0 x1 x2 x7 ([] : List (S25)) 0)
def fullerlaw11_InferSame.l0 : Nat → List (S25) → Int → Int → Bool → List (S25) → Int → Option (Bool)
 | 0, _, _, _, _, _, _ => none
 | k + 1, x0, x1, x2, x7, x8, x9 => if x9 < (x0.length : Int) then (if 0 ≤ x9 then (if ((rd_T25 x0 x9).f0) = 3 then ((some (([x1] : List Int) : List Int)).bind fun y659 => (if ((rd_T25 x0 x9).f0) = 2 then (if 0 < (y659.length : Int) then ((some (([Int.tmod (wrap64 ((rd y659 0) + (wrap64 (x2)))) 8] : List Int) : List Int)).bind fun y663 => (if 1 ≤ (y659.length : Int) then ((some (y659.drop 1 : List Int)).bind fun y666 => (if y663.length + y666.length < 17592186044416 then (if x8.length < 2513169434916 then (fullerlaw11_InferSame.l0 k x0 x1 x2 x7 (x8 ++ [(⟨(rd_T25 x0 x9).f0, (rd_T25 x0 x9).f1, (y663 ++ y666)⟩ : S25)]) (wrap64 (x9 + 1))) else (none)) else (none))) else (none))) else (none)) else (if x8.length < 2513169434916 then (fullerlaw11_InferSame.l0 k x0 x1 x2 x7 (x8 ++ [(⟨(rd_T25 x0 x9).f0, (rd_T25 x0 x9).f1, y659⟩ : S25)]) (wrap64 (x9 + 1))) else (none)))) else (if ((rd_T25 x0 x9).f0) = 2 then (if 0 < (((rd_T25 x0 x9).f2).length : Int) then ((some (([Int.tmod (wrap64 ((rd ((rd_T25 x0 x9).f2) 0) + (wrap64 (x2)))) 8] : List Int) : List Int)).bind fun y681 => (if 1 ≤ (((rd_T25 x0 x9).f2).length : Int) then ((some (((rd_T25 x0 x9).f2).drop 1 : List Int)).bind fun y684 => (if y681.length + y684.length < 17592186044416 then (if x8.length < 2513169434916 then (fullerlaw11_InferSame.l0 k x0 x1 x2 x7 (x8 ++ [(⟨(rd_T25 x0 x9).f0, (rd_T25 x0 x9).f1, (y681 ++ y684)⟩ : S25)]) (wrap64 (x9 + 1))) else (none)) else (none))) else (none))) else (none)) else (if x8.length < 2513169434916 then (fullerlaw11_InferSame.l0 k x0 x1 x2 x7 (x8 ++ [(⟨(rd_T25 x0 x9).f0, (rd_T25 x0 x9).f1, (rd_T25 x0 x9).f2⟩ : S25)]) (wrap64 (x9 + 1))) else (none)))) else (none)) else ((infer_Shapes.f k x0).bind fun bt646 => ((infer_Shapes.f k x8).bind fun bt651 => (if x7 = true then ((fullerref11_Same.f k bt646.1 bt651.1).bind fun t656 => (if t656 = true then (if bt646.2.1 = bt651.2.1 then (some (bt646.2.2 == bt651.2.2)) else (some false)) else (some false))) else (some false))))
end
def fullerlaw11_InferSame.f (k : Nat) (l0 : List (S25)) (a1 : Int) (a2 : Int) : Option (Bool) := (fullerlaw11_awake.f k).bind fun t643 => ((fullerref10_Few.f k l0).bind fun t644 => (if t644 = true then ((graph_Check.f l0).bind fun t645 => (fullerlaw11_InferSame.j0 k l0 a1 a2 t643 (!t645))) else (fullerlaw11_InferSame.j0 k l0 a1 a2 t643 true)))
theorem fullerlaw11_InferSame.mono_l : ∀ k, (∀ y0 y1 y2 y3 y4, LeO (fullerlaw11_InferSame.j0 k y0 y1 y2 y3 y4) (fullerlaw11_InferSame.j0 (k + 1) y0 y1 y2 y3 y4)) ∧ (∀ y0 y1 y2 y3 y4 y5, LeO (fullerlaw11_InferSame.l0 k y0 y1 y2 y3 y4 y5) (fullerlaw11_InferSame.l0 (k + 1) y0 y1 y2 y3 y4 y5))
 | 0 => ⟨fun _ _ _ _ _ r h => by simp [fullerlaw11_InferSame.j0] at h, fun _ _ _ _ _ _ r h => by simp [fullerlaw11_InferSame.l0] at h⟩
 | k + 1 => by
  obtain ⟨ih0, ih1⟩ := fullerlaw11_InferSame.mono_l k
  refine ⟨?_, ?_⟩
  ·intro y0 y1 y2 y3 y4
   unfold fullerlaw11_InferSame.j0
   repeat' first
   | (with_reducible exact ih0 _ _ _ _ _)
   | (with_reducible exact ih1 _ _ _ _ _ _)
   | (with_reducible exact fullerlaw11_awake.mono _)
   | (with_reducible exact fullerref10_Few.mono _ _)
   | (with_reducible exact fullerref11_Same.mono _ _ _)
   | (with_reducible exact infer_Shapes.mono _ _)
   | (with_reducible exact LeO.refl _)
   | (with_reducible exact LeO.none _)
   | (with_reducible refine LeO.ite ?_ ?_)
   | (with_reducible refine LeO.bind ?_ (fun _ => ?_))
   | exact ih0 _ _ _ _ _
   | exact ih1 _ _ _ _ _ _
   | exact fullerlaw11_awake.mono _
   | exact fullerref10_Few.mono _ _
   | exact fullerref11_Same.mono _ _ _
   | exact infer_Shapes.mono _ _
   | exact LeO.none _
   | refine LeO.ite ?_ ?_
   | refine LeO.bind ?_ (fun _ => ?_)
  ·intro y0 y1 y2 y3 y4 y5
   unfold fullerlaw11_InferSame.l0
   repeat' first
   | (with_reducible exact ih0 _ _ _ _ _)
   | (with_reducible exact ih1 _ _ _ _ _ _)
   | (with_reducible exact fullerlaw11_awake.mono _)
   | (with_reducible exact fullerref10_Few.mono _ _)
   | (with_reducible exact fullerref11_Same.mono _ _ _)
   | (with_reducible exact infer_Shapes.mono _ _)
   | (with_reducible exact LeO.refl _)
   | (with_reducible exact LeO.none _)
   | (with_reducible refine LeO.ite ?_ ?_)
   | (with_reducible refine LeO.bind ?_ (fun _ => ?_))
   | exact ih0 _ _ _ _ _
   | exact ih1 _ _ _ _ _ _
   | exact fullerlaw11_awake.mono _
   | exact fullerref10_Few.mono _ _
   | exact fullerref11_Same.mono _ _ _
   | exact infer_Shapes.mono _ _
   | exact LeO.none _
   | refine LeO.ite ?_ ?_
   | refine LeO.bind ?_ (fun _ => ?_)
theorem fullerlaw11_InferSame.mono : ∀ a0 a1 a2 k, LeO (fullerlaw11_InferSame.f k a0 a1 a2) (fullerlaw11_InferSame.f (k + 1) a0 a1 a2) := by
 intro a0 a1 a2 k
 obtain ⟨ih0, ih1⟩ := fullerlaw11_InferSame.mono_l k
 unfold fullerlaw11_InferSame.f
 repeat' first
   | (with_reducible exact ih0 _ _ _ _ _)
   | (with_reducible exact ih1 _ _ _ _ _ _)
   | (with_reducible exact fullerlaw11_awake.mono _)
   | (with_reducible exact fullerref10_Few.mono _ _)
   | (with_reducible exact fullerref11_Same.mono _ _ _)
   | (with_reducible exact infer_Shapes.mono _ _)
   | (with_reducible exact LeO.refl _)
   | (with_reducible exact LeO.none _)
   | (with_reducible refine LeO.ite ?_ ?_)
   | (with_reducible refine LeO.bind ?_ (fun _ => ?_))
   | exact ih0 _ _ _ _ _
   | exact ih1 _ _ _ _ _ _
   | exact fullerlaw11_awake.mono _
   | exact fullerref10_Few.mono _ _
   | exact fullerref11_Same.mono _ _ _
   | exact infer_Shapes.mono _ _
   | exact LeO.none _
   | refine LeO.ite ?_ ?_
   | refine LeO.bind ?_ (fun _ => ?_)
def fullerlaw11_InferSame.T12 : Bool × List (List Nat × List Nat) := (true, [([], []), ([0], [0]), ([1], [1]), ([2], [2]), ([], []), ([4], [4]), ([3, 5], [3, 5]), ([6], [6]), ([7], [7]), ([], []), ([9], [9]), ([10], [10]), ([8, 11], [8, 11]), ([0, 1, 2, 3, 4, 5, 6, 7, 8, 9, 10, 11, 12], []), ([13, 12, 12, 0, 1, 2, 3, 4, 5, 6, 7, 8, 9, 10, 11, 12], [12, 13])])
def fullerlaw11_InferSame.B12 : List Nat := [0, 1, 3, 7, 0, 16, 63, 127, 255, 0, 512, 1536, 4095, 8191, 16383]
theorem fullerlaw11_InferSame.tab12 : rtab .any (opsOf Try.f7 12) = fullerlaw11_InferSame.T12 := by kernel_rfl
theorem fullerlaw11_InferSame.bits12 : waitsOk fullerlaw11_InferSame.T12.2 fullerlaw11_InferSame.B12 = true := by kernel_rfl
set_option maxHeartbeats 8000000 in
set_option maxRecDepth 100000 in
theorem fullerlaw11_InferSame.calls (k : Nat) (P0_ : Nat → Prop) (A0 : Option Addr) (c0 : Nat) (l0 : List (S25)) (a1 : Int) (a2 : Int) (r : Bool) (w : World) (hs0 : Kd.V k25 25 w w.heap.size (fun k_ => P0_ k_) (.slice A0 l0.length c0) l0) (h : fullerlaw11_InferSame.f k l0 a1 a2 = some r) :
  Calls Try.prog 7 #[.slice A0 l0.length c0, .int .i64 a1, .int .u8 a2] w fun e w' => e = .returned (.bool r) ∧ Below w.heap.size w w' := by
 have hu25 := Try.underlying25
 have HO0 := Aside0.mk (show Kd.V k25 25 w w.heap.size (fun k_ => (P0_ k_ ∨ w.heap.size ≤ k_)) (.slice A0 l0.length c0) l0 from Kd.V_mono hs0 (fun k_ hk => .inl hk))
 have HB := Aside0.mk (Below.refl w.heap.size w)
 have H : ((fullerlaw11_awake.f k).bind fun t643 => ((fullerref10_Few.f k l0).bind fun t644 => (if t644 = true then ((graph_Check.f l0).bind fun t645 => (fullerlaw11_InferSame.j0 k l0 a1 a2 t643 (!t645))) else (fullerlaw11_InferSame.j0 k l0 a1 a2 t643 true)))) = some r := h
 clear h
 replace H := Option.bind_eq_some_iff.mp H
 obtain ⟨t643, A40, H⟩ := H
 replace H : ((fullerref10_Few.f k l0).bind fun t644 => (if t644 = true then ((graph_Check.f l0).bind fun t645 => (fullerlaw11_InferSame.j0 k l0 a1 a2 t643 (!t645))) else (fullerlaw11_InferSame.j0 k l0 a1 a2 t643 true))) = some r := H
 have A4 := Aside0.mk A40
 clear A40
 have HC5 := Aside0.mk H
 clear H
 go_enter Try.func7, Try.ntmps7
 go_upto_region 2 with (first | ((with_reducible refine gate_callee (f := 8) rfl ?_); refine gL_ (some 17) Try.func8 #[] ?_; (with_reducible refine (fullerlaw11_awake.calls k  t643 _ A4.out).mono ?_); rintro e w6 ⟨rfl, hb⟩; refine ⟨_, rfl, ?_⟩; replace HO0 := Aside0.mk (Kd.V_below (mvV_ HO0.out) hb); replace HB := Aside0.mk (below_step (bq0_ HB.out) hb); (try clear hb)))
 (try simp only [Act.put, sA_, sB_, sC_])
 go_cut [25] (fun v25 wc => ∃ (kq : Nat) (x25_4 : Bool), v25 = .bool x25_4 ∧ Aside0 (fullerlaw11_InferSame.j0 kq l0 a1 a2 t643 x25_4 = some r) ∧ Aside0 (kq ≤ k) ∧ Aside0 (Kd.V k25 25 wc w.heap.size (fun k_ => (P0_ k_ ∨ w.heap.size ≤ k_)) (.slice A0 l0.length c0) l0) ∧ Aside0 (Below w.heap.size w wc))
 case first => as_aux_lemma =>
  have H := HC5.out
  clear HC5
  replace H := Option.bind_eq_some_iff.mp H
  obtain ⟨t644, A70, H⟩ := H
  replace H : (if t644 = true then ((graph_Check.f l0).bind fun t645 => (fullerlaw11_InferSame.j0 k l0 a1 a2 t643 (!t645))) else (fullerlaw11_InferSame.j0 k l0 a1 a2 t643 true)) = some r := H
  have A7 := Aside0.mk A70
  clear A70
  by_cases c8 : t644 = true
  ·subst c8
   have H1 : ((graph_Check.f l0).bind fun t645 => (fullerlaw11_InferSame.j0 k l0 a1 a2 t643 (!t645))) = some r := by rw [if_pos rfl] at H; exact H
   clear H
   have H := H1
   clear H1
   replace H := Option.bind_eq_some_iff.mp H
   obtain ⟨t645, A90, H⟩ := H
   replace H : (fullerlaw11_InferSame.j0 k l0 a1 a2 t643 (!t645)) = some r := H
   have A9 := Aside0.mk A90
   clear A90
   have H' := Aside0.mk H
   clear H
   go_wp2_with (first | ((with_reducible refine gate_callee (f := 9) rfl ?_); refine gL_ (some 19) Try.func9 #[.slice A0 l0.length c0] ?_; (with_reducible refine (fullerref10_Few.calls k _ _ l0 true _ ?side1 ?side2 A7.out).mono ?_); (case side1 => exact mvC_ ((Kd.V_reads' HO0.out).2.2)); (case side2 => exact (Kd.V_reads' HO0.out).2.1); rintro e w' ⟨rfl, ⟨nd, rfl⟩⟩; refine ⟨_, rfl, ?_⟩) | (go_at_call 17; (with_reducible refine (graph_Check.calls _ _ l0 t645 _ ?side1 ?side2 A9.out).mono ?_); (case side1 => exact mvC_ ((Kd.V_reads' HO0.out).2.2)); (case side2 => exact (Kd.V_reads' HO0.out).2.1); rintro e w10 ⟨rfl, hb⟩; replace HO0 := Aside0.mk (Kd.V_below (mvV_ HO0.out) hb); replace HB := Aside0.mk (below_step (bq0_ HB.out) hb); (try clear hb)))
   go_meet
   case rel => exact ⟨_, (!t645), (by first | rfl | (simp; done) | (simp [*]; done)), H', ⟨by first | omega | exact Nat.le_refl _⟩, ⟨mvV_ HO0.out⟩, ⟨bq0_ HB.out⟩⟩
  ·replace c8 := Bool.eq_false_iff.mpr c8
   subst c8
   have H1 : (fullerlaw11_InferSame.j0 k l0 a1 a2 t643 true) = some r := by rw [if_neg (show ¬ (false = true) by decide)] at H; exact H
   clear H
   have H := H1
   clear H1
   have H' := Aside0.mk H
   clear H
   go_wp2_with (first | ((with_reducible refine gate_callee (f := 9) rfl ?_); refine gL_ (some 19) Try.func9 #[.slice A0 l0.length c0] ?_; (with_reducible refine (fullerref10_Few.calls k _ _ l0 false _ ?side1 ?side2 A7.out).mono ?_); (case side1 => exact mvC_ ((Kd.V_reads' HO0.out).2.2)); (case side2 => exact (Kd.V_reads' HO0.out).2.1); rintro e w' ⟨rfl, ⟨nd, rfl⟩⟩; refine ⟨_, rfl, ?_⟩))
   go_meet
   case rel => exact ⟨_, (true), (by first | rfl | (simp; done) | (simp [*]; done)), H', ⟨by first | omega | exact Nat.le_refl _⟩, ⟨mvV_ HO0.out⟩, ⟨bq0_ HB.out⟩⟩
 case rest => as_aux_lemma =>
  clear HC5
  try clear p2
  try clear c7
  try clear c8
  try clear c9
  obtain ⟨kq, x25_4, rfl, HA, HJ4, HO_0, HB⟩ := hcut
  cases kq with
  | zero => exact absurd HA.out (by simp [fullerlaw11_InferSame.j0])
  | succ kj4 =>
   have H := HA.out
   clear HA
   simp only [fullerlaw11_InferSame.j0] at H
   by_cases c11 : x25_4 = true
   ·subst c11
    have H1 : (some t643) = some r := by rw [if_pos rfl] at H; exact H
    clear H
    have H := H1
    clear H1
    obtain rfl := Option.some.inj H
    go_wp2
    go_ret
    exact ⟨by first | rfl | (simp <;> rfl) | (simp [*] <;> rfl), bq0_ HB.out⟩
   ·as_aux_lemma =>
    replace c11 := Bool.eq_false_iff.mpr c11
    subst c11
    have H1 : (fullerlaw11_InferSame.l0 kj4 l0 a1 a2 t643 ([] : List (S25)) 0) = some r := by rw [if_neg (show ¬ (false = true) by decide)] at H; exact H
    clear H
    have H := H1
    clear H1
    have H' := Aside0.mk H
    clear H
    go_wp2
    go_loopg [8, 9] kj4 (fun kq v8 v9 w' => ∃ (x8_2 : List (S25)) (x9_2 : Int), v9 = .int .i64 x9_2 ∧ Aside0 (fullerlaw11_InferSame.l0 kq l0 a1 a2 t643 x8_2 x9_2 = some r) ∧ Aside0 (kq ≤ kj4) ∧ Aside0 (Kd.V k25 25 w' w.heap.size (fun k_ => (P0_ k_ ∨ w.heap.size ≤ k_) ∧ some k_ ≠ (v8 : Value).ownBlock) (.slice A0 l0.length c0) l0) ∧ Aside0 (Kd.N k25 25 w' w.heap.size (fun k_ => (P0_ k_ ∨ w.heap.size ≤ k_)) v8 x8_2) ∧ Aside0 (Below w.heap.size w w'))
    case atStart => exact ⟨(([] : List (S25))), (0), (by first | rfl | (simp; done) | (simp [*]; done)), H', ⟨Nat.le_refl _⟩, ⟨by (with_reducible repeat (first | apply Kd.V_alloc | apply Kd.V_drewN | apply Kd.V_drew)); exact Kd.V_mono HO_0.out (fun _ hk => ⟨hk, (by simp [Value.ownBlock])⟩)⟩, ⟨by first | exact Kd.R_nil _ _ _ _ _ | exact Kd.N_nil _ _ _ _ _ | exact Kd.V_nil _ _ _ _ _ | exact Kd.Q_nil _ _ _ _ _ | exact Kd.S_nil _ _ _ _ _⟩, ⟨bq0_ HB.out⟩⟩
    case round => as_aux_lemma =>
     clear H'
     try clear c1
     try clear p2
     try clear c7
     try clear c8
     try clear c9
     try clear c11
     try clear p2
     obtain ⟨x8_2, x9_2, rfl, HA, HK2, HO_0, HO_8, HB⟩ := hrel
     cases gk with
     | zero => exact absurd HA.out (by simp [fullerlaw11_InferSame.l0])
     | succ k2 =>
      have H := HA.out
      clear HA
      simp only [fullerlaw11_InferSame.l0] at H
      by_cases c12 : x9_2 < (l0.length : Int)
      ·as_aux_lemma =>
       rw [if_pos c12] at H
       have c12b0 : decide (x9_2 < (l0.length : Int)) = true := decide_eq_true c12
       clear c12
       by_cases c13 : 0 ≤ x9_2
       ·as_aux_lemma =>
        rw [if_pos c13] at H
        have c13b0 : decide (0 ≤ x9_2) = true := decide_eq_true c13
        clear c13
        by_cases c14 : ((rd_T25 l0 x9_2).f0) = 3
        ·as_aux_lemma =>
         rw [if_pos c14] at H
         obtain ⟨c14b0, c14b1⟩ := eqT_ c14
         clear c14
         obtain ⟨y659, hy659⟩ : ∃ y_ : List Int, y_ = (([a1] : List Int)) := ⟨_, rfl⟩
         replace H : (if ((rd_T25 l0 x9_2).f0) = 2 then (if 0 < (y659.length : Int) then ((some (([Int.tmod (wrap64 ((rd y659 0) + (wrap64 (a2)))) 8] : List Int) : List Int)).bind fun y663 => (if 1 ≤ (y659.length : Int) then ((some (y659.drop 1 : List Int)).bind fun y666 => (if y663.length + y666.length < 17592186044416 then (if x8_2.length < 2513169434916 then (fullerlaw11_InferSame.l0 k2 l0 a1 a2 t643 (x8_2 ++ [(⟨(rd_T25 l0 x9_2).f0, (rd_T25 l0 x9_2).f1, (y663 ++ y666)⟩ : S25)]) (wrap64 (x9_2 + 1))) else (none)) else (none))) else (none))) else (none)) else (if x8_2.length < 2513169434916 then (fullerlaw11_InferSame.l0 k2 l0 a1 a2 t643 (x8_2 ++ [(⟨(rd_T25 l0 x9_2).f0, (rd_T25 l0 x9_2).f1, y659⟩ : S25)]) (wrap64 (x9_2 + 1))) else (none))) = some r := by first | (rw [hy659]; with_reducible exact H) | (have H2_ := (Option.bind_some _ _).symm.trans H; rw [hy659]; with_reducible exact H2_) | (have H2_ := (Option.bind_some _ _).symm.trans H; with_reducible exact H2_) | with_reducible exact H | (rw [hy659]; exact H) | exact H
         have Ny659 := Aside0.mk hy659
         clear hy659
         by_cases c15 : ((rd_T25 l0 x9_2).f0) = 2
         ·as_aux_lemma =>
          rw [if_pos c15] at H
          obtain ⟨c15b0, c15b1⟩ := eqT_ c15
          clear c15
          by_cases c16 : 0 < (y659.length : Int)
          ·as_aux_lemma =>
           rw [if_pos c16] at H
           have c16b0 : decide (0 < (y659.length : Int)) = true := decide_eq_true c16
           have c16b1 : decide (0 < y659.length) = true := decide_eq_true (by omega)
           clear c16
           obtain ⟨y663, hy663⟩ : ∃ y_ : List Int, y_ = (([Int.tmod (wrap64 ((rd y659 0) + (wrap64 (a2)))) 8] : List Int)) := ⟨_, rfl⟩
           replace H : (if 1 ≤ (y659.length : Int) then ((some (y659.drop 1 : List Int)).bind fun y666 => (if y663.length + y666.length < 17592186044416 then (if x8_2.length < 2513169434916 then (fullerlaw11_InferSame.l0 k2 l0 a1 a2 t643 (x8_2 ++ [(⟨(rd_T25 l0 x9_2).f0, (rd_T25 l0 x9_2).f1, (y663 ++ y666)⟩ : S25)]) (wrap64 (x9_2 + 1))) else (none)) else (none))) else (none)) = some r := by first | (rw [hy663]; with_reducible exact H) | (have H2_ := (Option.bind_some _ _).symm.trans H; rw [hy663]; with_reducible exact H2_) | (have H2_ := (Option.bind_some _ _).symm.trans H; with_reducible exact H2_) | with_reducible exact H | (rw [hy663]; exact H) | exact H
           have Ny663 := Aside0.mk hy663
           clear hy663
           by_cases c17 : 1 ≤ (y659.length : Int)
           ·as_aux_lemma =>
            rw [if_pos c17] at H
            have c17b0 := eq_true c17
            have c17b1 : decide (1 ≤ (y659.length : Int)) = true := decide_eq_true c17
            clear c17
            obtain ⟨y666, hy666⟩ : ∃ y_ : List Int, y_ = (y659.drop 1) := ⟨_, rfl⟩
            replace H : (if y663.length + y666.length < 17592186044416 then (if x8_2.length < 2513169434916 then (fullerlaw11_InferSame.l0 k2 l0 a1 a2 t643 (x8_2 ++ [(⟨(rd_T25 l0 x9_2).f0, (rd_T25 l0 x9_2).f1, (y663 ++ y666)⟩ : S25)]) (wrap64 (x9_2 + 1))) else (none)) else (none)) = some r := by first | (rw [hy666]; with_reducible exact H) | (have H2_ := (Option.bind_some _ _).symm.trans H; rw [hy666]; with_reducible exact H2_) | (have H2_ := (Option.bind_some _ _).symm.trans H; with_reducible exact H2_) | with_reducible exact H | (rw [hy666]; exact H) | exact H
            have Ny666 := Aside0.mk hy666
            clear hy666
            by_cases c18 : y663.length + y666.length < 17592186044416
            ·as_aux_lemma =>
             rw [if_pos c18] at H
             have LMc18 := Aside0.mk c18
             clear c18
             obtain ⟨y671, hy671⟩ : ∃ y_ : List Int, y_ = (y663 ++ y666) := ⟨_, rfl⟩
             replace H : (if x8_2.length < 2513169434916 then (fullerlaw11_InferSame.l0 k2 l0 a1 a2 t643 (x8_2 ++ [(⟨(rd_T25 l0 x9_2).f0, (rd_T25 l0 x9_2).f1, y671⟩ : S25)]) (wrap64 (x9_2 + 1))) else (none)) = some r := by first | (rw [hy671]; with_reducible exact H) | (have H2_ := (Option.bind_some _ _).symm.trans H; rw [hy671]; with_reducible exact H2_) | (have H2_ := (Option.bind_some _ _).symm.trans H; with_reducible exact H2_) | with_reducible exact H | (rw [hy671]; exact H) | exact H
             have Ny671 := Aside0.mk hy671
             clear hy671
             by_cases c19 : x8_2.length < 2513169434916
             ·as_aux_lemma =>
              rw [if_pos c19] at H
              have LMc19 := Aside0.mk c19
              clear c19
              obtain ⟨y674, hy674⟩ : ∃ y_ : List (S25), y_ = (x8_2 ++ [(⟨(rd_T25 l0 x9_2).f0, (rd_T25 l0 x9_2).f1, y671⟩ : S25)]) := ⟨_, rfl⟩
              replace H : (fullerlaw11_InferSame.l0 k2 l0 a1 a2 t643 y674 (wrap64 (x9_2 + 1))) = some r := by first | (rw [hy674]; with_reducible exact H) | (have H2_ := (Option.bind_some _ _).symm.trans H; rw [hy674]; with_reducible exact H2_) | (have H2_ := (Option.bind_some _ _).symm.trans H; with_reducible exact H2_) | with_reducible exact H | (rw [hy674]; exact H) | exact H
              have Ny674 := Aside0.mk hy674
              clear hy674
              have H' := Aside0.mk H
              clear H
              have p657 : 0 ≤ (x9_2 : Int) := od_
              have q657 : x9_2 < (l0.length : Int) := od_
              obtain ⟨ad657, A657_1, c657_1, A657_2, c657_2, e657, hx657_0, hx657_1, hx657_2, hl657_1, hi657_1, hl657_2, hi657_2⟩ := at_T25 (Kd.V_reads' HO_0.out).2.2 x9_2 p657 q657
              cases e657
              obtain ⟨ce657, hce657, hMe657, hcc657⟩ := Kd.V_get HO_0.out z25 x9_2 p657 (by first | exact q657 | exact od_ | (have e_ := (Kd.V_reads' HO_0.out).1; omega))
              obtain ⟨ua657_1, uc657_1, ua657_2, uc657_2, rfl, ul657_1, ge657_1, ul657_2, ge657_2⟩ := k25_openF hMe657
              have hv657_1 := hcc657 1 _ rfl
              rw [add_field _ _ 1 (by omega)] at hv657_1
              replace hv657_1 := Option.some.inj (hv657_1.symm.trans hx657_1)
              injection hv657_1 with hva_ hvn_ hvc_
              rw [hva_] at ge657_1
              rw [hvc_] at ul657_1
              have HL657_1 := Aside0.mk (show Kd.V (Kd.int .i64) 3 _ w.heap.size _ _ ((rd_T25 l0 x9_2).f1) from Kd.V_mk ul657_1 ge657_1)
              clear hva_ hvn_ hvc_ ge657_1 ul657_1
              have hv657_2 := hcc657 2 _ rfl
              rw [add_field _ _ 2 (by omega)] at hv657_2
              replace hv657_2 := Option.some.inj (hv657_2.symm.trans hx657_2)
              injection hv657_2 with hva_ hvn_ hvc_
              rw [hva_] at ge657_2
              rw [hvc_] at ul657_2
              have HL657_2 := Aside0.mk (show Kd.V (Kd.int .i64) 3 _ w.heap.size _ _ ((rd_T25 l0 x9_2).f2) from Kd.V_mk ul657_2 ge657_2)
              clear hva_ hvn_ hvc_ ge657_2 ul657_2 hcc657 hce657
              have HR657_1 := Aside0.mk hi657_1
              have HC657_1 := Aside0.mk hl657_1
              clear hi657_1 hl657_1
              have HR657_2 := Aside0.mk hi657_2
              have HC657_2 := Aside0.mk hl657_2
              clear hi657_2 hl657_2
              replace p657 := eq_true p657
              replace q657 := eq_true q657
              try go_wp2_with (first | ((with_reducible refine gate_dst (N := 10) rfl ?_); refine box_event ?hg (N := 10) ?hd (cs := #[.int .i64 0, .slice none 0 0, .slice none 0 0]) (t := 25) ?hr ?_; (case hd => rfl); (case hg => rfl); (case hr => first | (go_simp; done) | (go_simp; rfl)); intro gb658 hg w20 hbox hb; have BK658 := Aside0.mk (hbox); have GW658 := Aside0.mk ((by rw [hg]; exact (below_size (bq0_ HB.out)) : w.heap.size ≤ gb658)); have GE658 := Aside0.mk ((by rw [hg]; exact (below_size (bq0_ HB.out)) : w.heap.size ≤ gb658)); replace HO_0 := Aside0.mk (Kd.V_below (Kd.V_elderB (mvV_ HO_0.out) gb658 (Nat.le_of_eq hg.symm)) hb); replace HO_8 := Aside0.mk (Kd.N_below (Kd.N_elderB (mvN_ HO_8.out) gb658 (Nat.le_of_eq hg.symm)) hb); replace HL657_1 := Aside0.mk (Kd.V_below (Kd.V_elderB (mvV_ HL657_1.out) gb658 (Nat.le_of_eq hg.symm)) hb); replace HL657_2 := Aside0.mk (Kd.V_below (Kd.V_elderB (mvV_ HL657_2.out) gb658 (Nat.le_of_eq hg.symm)) hb); replace HR657_1 := Aside0.mk (Kd.C_below (by repeat (first | (with_reducible exact HR657_1.out) | (with_reducible refine Kd.C_alloc ?_ _) | (with_reducible refine Kd.C_drewN ?_ _) | (with_reducible refine Kd.C_drew ?_) | exact HR657_1.out)) hb); replace HR657_2 := Aside0.mk (Kd.C_below (by repeat (first | (with_reducible exact HR657_2.out) | (with_reducible refine Kd.C_alloc ?_ _) | (with_reducible refine Kd.C_drewN ?_ _) | (with_reducible refine Kd.C_drew ?_) | exact HR657_2.out)) hb); replace HB := Aside0.mk (below_step (bq0_ HB.out) hb); clear hb hbox hg; have hcz21_0 : w20.cell? ⟨gb658, 0, none⟩ = some (.int .i64 0) := (blk_cell BK658.out 0).trans rfl; have hcz21_1 : w20.cell? ⟨gb658, 1, none⟩ = some (.slice none 0 0) := (blk_cell BK658.out 1).trans rfl; have hcz21_2 : w20.cell? ⟨gb658, 2, none⟩ = some (.slice none 0 0) := (blk_cell BK658.out 2).trans rfl; have hfz21_0 := blk_frozen BK658.out 0; have hfz21_1 := blk_frozen BK658.out 1; have hfz21_2 := blk_frozen BK658.out 2) | ((with_reducible refine gate_dst (N := 41) rfl ?_); refine Kd.R_lit (Kd.int .i64) _ 3 ?hg (N := 41) ?hd (xs := ([a1] : List Int)) (inner := [.int .i64 a1]) (ok := fun _ => True) (okp := fun _ => True) ?hr ?hp (fun _ hk => hk) trivial (Below.refl _ _) (Nat.le_refl _) (by simp) ?_; (case hd => rfl); (case hg => rfl); (case hr => first | (go_simp; done) | (go_simp; rfl)); (case hp => exact (Reps.one (show Kd.M (Kd.int .i64) _ _ _ a1 [.int .i64 a1] from rfl) (Reps.none _ _))); intro v660 w22 ho23 hb hg_ hnew_; clear hg_ hnew_; (first | rw [← Ny659.out] at ho23 | (simp only [Int.reduceToNat] at ho23; rw [← Ny659.out] at ho23)); have HO661 := Aside0.mk (Kd.R_lower (Kd.R_newM (M := fun k_ => (w.heap.size ≤ k_)) ho23 (below_size (bq1_ HB.out GE658.out)) (fun k_ h_ => h_)) (below_size (bq1_ HB.out GE658.out))); replace HO_0 := Aside0.mk (Kd.V_elder' (by (with_reducible repeat (first | apply Kd.V_alloc | apply Kd.V_drewN | apply Kd.V_drew)); exact (Kd.V_mono (Kd.V_far (p := ⟨gb658, 2, none⟩) (Kd.V_far (p := ⟨gb658, 1, none⟩) (Kd.V_far (p := ⟨gb658, 0, none⟩) (Kd.V_mono HO_0.out (fun k_ hk => (⟨hk, hk.2⟩ : _ ∧ k_ ≠ gb658))) (fun _ hk => hk.2) (.int .i64 ((rd_T25 l0 x9_2).f0))) (fun _ hk => hk.2) (.slice A657_1 ((rd_T25 l0 x9_2).f1).length c657_1)) (fun _ hk => hk.2) (.slice A657_2 ((rd_T25 l0 x9_2).f2).length c657_2)) (fun _ h_ => h_.1))) (Kd.R_base ho23) hb); replace HO_8 := Aside0.mk (Kd.N_elder' (by (with_reducible repeat (first | apply Kd.N_alloc | apply Kd.N_drewN | apply Kd.N_drew)); exact (Kd.N_mono (Kd.N_far (p := ⟨gb658, 2, none⟩) (Kd.N_far (p := ⟨gb658, 1, none⟩) (Kd.N_far (p := ⟨gb658, 0, none⟩) (Kd.N_mono HO_8.out (fun k_ hk => (⟨hk, hk.2⟩ : _ ∧ k_ ≠ gb658))) (fun _ hk => hk.2) (.int .i64 ((rd_T25 l0 x9_2).f0))) (fun _ hk => hk.2) (.slice A657_1 ((rd_T25 l0 x9_2).f1).length c657_1)) (fun _ hk => hk.2) (.slice A657_2 ((rd_T25 l0 x9_2).f2).length c657_2)) (fun _ h_ => h_.1))) (Kd.R_base ho23) hb); replace HR657_1 := Aside0.mk (Kd.C_below ((Kd.V_reads' (by (with_reducible repeat (first | apply Kd.V_alloc | apply Kd.V_drewN | apply Kd.V_drew)); exact (Kd.V_mono (Kd.V_far (p := ⟨gb658, 2, none⟩) (Kd.V_far (p := ⟨gb658, 1, none⟩) (Kd.V_far (p := ⟨gb658, 0, none⟩) (Kd.V_mono HL657_1.out (fun k_ hk => (⟨hk, hk.2⟩ : _ ∧ k_ ≠ gb658))) (fun _ hk => hk.2) (.int .i64 ((rd_T25 l0 x9_2).f0))) (fun _ hk => hk.2) (.slice A657_1 ((rd_T25 l0 x9_2).f1).length c657_1)) (fun _ hk => hk.2) (.slice A657_2 ((rd_T25 l0 x9_2).f2).length c657_2)) (fun _ h_ => h_.1)))).2.2) hb); replace HL657_1 := Aside0.mk (Kd.V_elder' (by (with_reducible repeat (first | apply Kd.V_alloc | apply Kd.V_drewN | apply Kd.V_drew)); exact (Kd.V_mono (Kd.V_far (p := ⟨gb658, 2, none⟩) (Kd.V_far (p := ⟨gb658, 1, none⟩) (Kd.V_far (p := ⟨gb658, 0, none⟩) (Kd.V_mono HL657_1.out (fun k_ hk => (⟨hk, hk.2⟩ : _ ∧ k_ ≠ gb658))) (fun _ hk => hk.2) (.int .i64 ((rd_T25 l0 x9_2).f0))) (fun _ hk => hk.2) (.slice A657_1 ((rd_T25 l0 x9_2).f1).length c657_1)) (fun _ hk => hk.2) (.slice A657_2 ((rd_T25 l0 x9_2).f2).length c657_2)) (fun _ h_ => h_.1))) (Kd.R_base ho23) hb); replace HR657_2 := Aside0.mk (Kd.C_below ((Kd.V_reads' (by (with_reducible repeat (first | apply Kd.V_alloc | apply Kd.V_drewN | apply Kd.V_drew)); exact (Kd.V_mono (Kd.V_far (p := ⟨gb658, 2, none⟩) (Kd.V_far (p := ⟨gb658, 1, none⟩) (Kd.V_far (p := ⟨gb658, 0, none⟩) (Kd.V_mono HL657_2.out (fun k_ hk => (⟨hk, hk.2⟩ : _ ∧ k_ ≠ gb658))) (fun _ hk => hk.2) (.int .i64 ((rd_T25 l0 x9_2).f0))) (fun _ hk => hk.2) (.slice A657_1 ((rd_T25 l0 x9_2).f1).length c657_1)) (fun _ hk => hk.2) (.slice A657_2 ((rd_T25 l0 x9_2).f2).length c657_2)) (fun _ h_ => h_.1)))).2.2) hb); replace HL657_2 := Aside0.mk (Kd.V_elder' (by (with_reducible repeat (first | apply Kd.V_alloc | apply Kd.V_drewN | apply Kd.V_drew)); exact (Kd.V_mono (Kd.V_far (p := ⟨gb658, 2, none⟩) (Kd.V_far (p := ⟨gb658, 1, none⟩) (Kd.V_far (p := ⟨gb658, 0, none⟩) (Kd.V_mono HL657_2.out (fun k_ hk => (⟨hk, hk.2⟩ : _ ∧ k_ ≠ gb658))) (fun _ hk => hk.2) (.int .i64 ((rd_T25 l0 x9_2).f0))) (fun _ hk => hk.2) (.slice A657_1 ((rd_T25 l0 x9_2).f1).length c657_1)) (fun _ hk => hk.2) (.slice A657_2 ((rd_T25 l0 x9_2).f2).length c657_2)) (fun _ h_ => h_.1))) (Kd.R_base ho23) hb); replace BK658 := Aside0.mk (blk_below (g := gb658) (o := .cells #[.int .i64 ((rd_T25 l0 x9_2).f0), .slice A657_1 ((rd_T25 l0 x9_2).f1).length c657_1, .slice A657_2 ((rd_T25 l0 x9_2).f2).length c657_2] 25 (0, 0)) (by (with_reducible repeat (first | refine blk_drewN ?_ _ | refine blk_drew ?_ | refine blk_alloc ?_ _)); refine blk_put (cs := #[.int .i64 ((rd_T25 l0 x9_2).f0), .slice A657_1 ((rd_T25 l0 x9_2).f1).length c657_1, .slice none 0 0]) ?_ 2 _ rfl; (with_reducible repeat (first | refine blk_drewN ?_ _ | refine blk_drew ?_ | refine blk_alloc ?_ _)); refine blk_put (cs := #[.int .i64 ((rd_T25 l0 x9_2).f0), .slice none 0 0, .slice none 0 0]) ?_ 1 _ rfl; (with_reducible repeat (first | refine blk_drewN ?_ _ | refine blk_drew ?_ | refine blk_alloc ?_ _)); refine blk_put (cs := #[.int .i64 0, .slice none 0 0, .slice none 0 0]) ?_ 0 _ rfl; (with_reducible repeat (first | refine blk_drewN ?_ _ | refine blk_drew ?_ | refine blk_alloc ?_ _)); exact BK658.out) hb); replace HB := Aside0.mk (below_step (bq1_ HB.out GE658.out) hb); clear hb ho23; obtain ⟨Ao24, co24, eo24⟩ := Kd.R_slice HO661.out; subst eo24; have hcz25_0 : w22.cell? ⟨gb658, 0, none⟩ = some (.int .i64 ((rd_T25 l0 x9_2).f0)) := (blk_cell BK658.out 0).trans rfl; have hcz25_1 : w22.cell? ⟨gb658, 1, none⟩ = some (.slice A657_1 ((rd_T25 l0 x9_2).f1).length c657_1) := (blk_cell BK658.out 1).trans rfl; have hcz25_2 : w22.cell? ⟨gb658, 2, none⟩ = some (.slice A657_2 ((rd_T25 l0 x9_2).f2).length c657_2) := (blk_cell BK658.out 2).trans rfl; have hfz25_0 := blk_frozen BK658.out 0; have hfz25_1 := blk_frozen BK658.out 1; have hfz25_2 := blk_frozen BK658.out 2))
              have n0_ : Aside0 (Kd.V k25 25 (w22.setCell ⟨gb658, 2, none⟩ (.slice Ao24 y659.length co24)) w.heap.size (fun k_ => (P0_ k_ ∨ w.heap.size ≤ k_) ∧ some k_ ≠ (u8 : Value).ownBlock ∧ some k_ ≠ (.slice Ao24 y659.length co24 : Value).ownBlock ∧ k_ ≠ gb658) (.slice (some ad657) l0.length c0) l0) := ⟨by (with_reducible repeat (first | apply Kd.V_alloc | apply Kd.V_drewN | apply Kd.V_drew)); exact Kd.V_mono (Kd.V_far (p := ⟨gb658, 2, none⟩) (Kd.V_mono HO_0.out (fun k_ hk => (⟨hk, hk.1.2⟩ : _ ∧ k_ ≠ gb658))) (fun _ hk => hk.2) (.slice Ao24 y659.length co24)) (fun _ hk => ⟨hk.1.1.1.1, ⟨hk.1.1.1.2, ⟨hk.1.2, hk.1.1.2⟩⟩⟩)⟩
              have n1_ : Aside0 (Kd.N k25 25 (w22.setCell ⟨gb658, 2, none⟩ (.slice Ao24 y659.length co24)) w.heap.size (fun k_ => (P0_ k_ ∨ w.heap.size ≤ k_) ∧ some k_ ≠ (.slice Ao24 y659.length co24 : Value).ownBlock ∧ k_ ≠ gb658) u8 x8_2) := ⟨by (with_reducible repeat (first | apply Kd.N_alloc | apply Kd.N_drewN | apply Kd.N_drew)); exact Kd.N_mono (Kd.N_far (p := ⟨gb658, 2, none⟩) (Kd.N_mono HO_8.out (fun k_ hk => (⟨hk, hk.1.2⟩ : _ ∧ k_ ≠ gb658))) (fun _ hk => hk.2) (.slice Ao24 y659.length co24)) (fun _ hk => ⟨hk.1.1.1, ⟨hk.1.2, hk.1.1.2⟩⟩)⟩
              have n2_ : Aside0 (Kd.V (Kd.int .i64) 3 (w22.setCell ⟨gb658, 2, none⟩ (.slice Ao24 y659.length co24)) w.heap.size (fun k_ => (P0_ k_ ∨ w.heap.size ≤ k_) ∧ some k_ ≠ (u8 : Value).ownBlock ∧ some k_ ≠ (.slice Ao24 y659.length co24 : Value).ownBlock ∧ k_ ≠ gb658) (.slice A657_1 ((rd_T25 l0 x9_2).f1).length c657_1) ((rd_T25 l0 x9_2).f1)) := ⟨by (with_reducible repeat (first | apply Kd.V_alloc | apply Kd.V_drewN | apply Kd.V_drew)); exact Kd.V_mono (Kd.V_far (p := ⟨gb658, 2, none⟩) (Kd.V_mono HL657_1.out (fun k_ hk => (⟨hk, hk.1.2⟩ : _ ∧ k_ ≠ gb658))) (fun _ hk => hk.2) (.slice Ao24 y659.length co24)) (fun _ hk => ⟨hk.1.1.1.1, ⟨hk.1.1.1.2, ⟨hk.1.2, hk.1.1.2⟩⟩⟩)⟩
              have n3_ : Aside0 (Kd.V (Kd.int .i64) 3 (w22.setCell ⟨gb658, 2, none⟩ (.slice Ao24 y659.length co24)) w.heap.size (fun k_ => (P0_ k_ ∨ w.heap.size ≤ k_) ∧ some k_ ≠ (u8 : Value).ownBlock ∧ some k_ ≠ (.slice Ao24 y659.length co24 : Value).ownBlock ∧ k_ ≠ gb658) (.slice A657_2 ((rd_T25 l0 x9_2).f2).length c657_2) ((rd_T25 l0 x9_2).f2)) := ⟨by (with_reducible repeat (first | apply Kd.V_alloc | apply Kd.V_drewN | apply Kd.V_drew)); exact Kd.V_mono (Kd.V_far (p := ⟨gb658, 2, none⟩) (Kd.V_mono HL657_2.out (fun k_ hk => (⟨hk, hk.1.2⟩ : _ ∧ k_ ≠ gb658))) (fun _ hk => hk.2) (.slice Ao24 y659.length co24)) (fun _ hk => ⟨hk.1.1.1.1, ⟨hk.1.1.1.2, ⟨hk.1.2, hk.1.1.2⟩⟩⟩)⟩
              have n4_ : Aside0 (Kd.R (Kd.int .i64) 3 (w22.setCell ⟨gb658, 2, none⟩ (.slice Ao24 y659.length co24)) w.heap.size (fun k_ => (w.heap.size ≤ k_)) (.slice Ao24 y659.length co24) y659) := ⟨by (with_reducible repeat (first | apply Kd.R_alloc | apply Kd.R_drewN | apply Kd.R_drew)); exact Kd.R_mono (Kd.R_far (p := ⟨gb658, 2, none⟩) (Kd.R_types HO661.out BK658.out (by decide)) (fun _ hk => hk.2) (.slice Ao24 y659.length co24)) (fun _ hk => hk.1.1)⟩
              have n5_ : Aside0 ((w22.setCell ⟨gb658, 2, none⟩ (.slice Ao24 y659.length co24)).heap[gb658]? = some (.cells #[.int .i64 ((rd_T25 l0 x9_2).f0), .slice A657_1 ((rd_T25 l0 x9_2).f1).length c657_1, .slice Ao24 y659.length co24] 25 (0, 0))) := ⟨by (with_reducible repeat (first | refine blk_drewN ?_ _ | refine blk_drew ?_ | refine blk_alloc ?_ _)); refine blk_put (cs := #[.int .i64 ((rd_T25 l0 x9_2).f0), .slice A657_1 ((rd_T25 l0 x9_2).f1).length c657_1, .slice A657_2 ((rd_T25 l0 x9_2).f2).length c657_2]) ?_ 2 _ rfl; (with_reducible repeat (first | refine blk_drewN ?_ _ | refine blk_drew ?_ | refine blk_alloc ?_ _)); exact BK658.out⟩
              have n6_ : Aside0 (Below w.heap.size w (w22.setCell ⟨gb658, 2, none⟩ (.slice Ao24 y659.length co24))) := ⟨bq1_ HB.out GE658.out⟩
              (try clear HO_0)
              (try clear HO_8)
              (try clear HL657_1)
              (try clear HL657_2)
              (try clear HO661)
              (try clear BK658)
              (try clear HB)
              generalize (w22.setCell ⟨gb658, 2, none⟩ (.slice Ao24 y659.length co24)) = w26 at n0_ n1_ n2_ n3_ n4_ n5_ n6_ ⊢
              have HO_0 := n0_
              have HO_8 := n1_
              have HL657_1 := n2_
              have HL657_2 := n3_
              have HO661 := n4_
              have BK658 := n5_
              have HB := n6_
              clear n0_ n1_ n2_ n3_ n4_ n5_ n6_
              replace HO_0 := Aside0.mk (Kd.V_drew HO_0.out)
              replace HO_8 := Aside0.mk (Kd.N_drew HO_8.out)
              replace HL657_1 := Aside0.mk (Kd.V_drew HL657_1.out)
              replace HL657_2 := Aside0.mk (Kd.V_drew HL657_2.out)
              replace HO661 := Aside0.mk (Kd.R_drew HO661.out)
              replace BK658 := Aside0.mk (blk_drew BK658.out)
              replace HB := Aside0.mk (below_drew1 HB.out)
              have p662 : 0 ≤ (0 : Int) := (by omega)
              have q662 : 0 < (y659.length : Int) := od_
              obtain ⟨ad662, e662, hx662_0⟩ := Kd.at_int (Kd.R_reads' HO661.out).2.2 0 p662 q662
              cases e662
              have qi662 : (0 < y659.length) = True := eq_true (by omega)
              (try rw [show ((0 : Int)).toNat = 0 from rfl] at hx662_0)
              (try rw [Addr.add_zero'] at hx662_0)
              replace p662 := eq_true p662
              replace q662 := eq_true q662
              have q28 : (1 : Int) ≤ ((y659.length : Int) : Int) := od_
              obtain ⟨i028, hi028, _, hsz28, _⟩ := info_parts info3
              have hroom28 : y659.length ≤ co24 := (Kd.R_reads' HO661.out).2.1
              have hC28 : Kd.F (Kd.int .i64) _ _ (some ad662) y659.length y659 := (Kd.V_at (base := w.heap.size) (Kd.V_mono (ok' := (fun k_ => (((P0_ k_ ∨ w.heap.size ≤ k_) ∧ some k_ ≠ (u8 : Value).ownBlock) ∧ k_ ≠ gb658))) (Kd.R_V (Kd.R_types (Kd.R_apart' (HO661.out) (Kd.N_typed HO_8.out) (by decide)) BK658.out (by decide))) (fun k_ hk => ⟨⟨(.inr (hk.1.1)), hk.1.2⟩, hk.2⟩))).2.2
              have hcut28 := cut_from (P := Try.prog) 23 3 .i64 Try.underlying23 hi028 1 hsz28 (some ad662) y659.length co24 1 (by omega) q28
              have hr28 := Kd.F_cut (m := (1 : Int).toNat) (c := co24) hC28 (by omega) hroom28
              obtain ⟨A28, hA28⟩ : ∃ A1, A1 = (if co24 = (1 : Int).toNat then (some ad662) else ((some ad662) : Option Addr).map (·.add ((1 : Int).toNat * 1))) := ⟨_, rfl⟩
              obtain ⟨c28, hc28⟩ : ∃ c1, c1 = co24 - (1 : Int).toNat := ⟨_, rfl⟩
              have hy28 : y666.length = y659.length - (1 : Int).toNat := (by rw [Ny666.out, List.length_drop] <;> omega)
              rw [show (y659).drop (1 : Int).toNat = y666 from Ny666.out.symm] at hr28
              replace hr28 : Kd.F (Kd.int .i64) _ _ A28 y666.length y666 := (by rw [hA28]; exact hr28)
              rw [← hy28, ← hA28, ← hc28] at hcut28
              have HO670 := Aside0.mk (show Kd.V (Kd.int .i64) 3 _ w.heap.size _ (.slice A28 y666.length c28) y666 from Kd.V_mk (by rw [hy28, hc28]; exact Nat.sub_le_sub_right hroom28 _) hr28)
              have HC670 := Aside0.mk (show y666.length ≤ c28 from by rw [hy28, hc28]; exact Nat.sub_le_sub_right hroom28 _)
              clear hr28 hC28 hroom28 hi028 hsz28 hc28
              have KY28 := Aside0.mk hy28
              have KA28 := Aside0.mk hA28
              clear hy28 hA28
              replace q28 := eq_true q28
              refine start_ (n := 15) (S := fun w' => w'.cell? ⟨gb658, 0, none⟩ = some (.int .i64 ((rd_T25 l0 x9_2).f0)) ∧ w'.cell? ⟨gb658, 1, none⟩ = some (.slice A657_1 ((rd_T25 l0 x9_2).f1).length c657_1) ∧ w'.cell? ⟨gb658, 2, none⟩ = some (.slice (some ad662) y659.length co24) ∧ w'.cell? ad662 = some (.int .i64 (rd y659 0))) (ds := [12, 14]) L7_0 (by kernel_rfl) rfl rfl ⟨(blk_cell BK658.out 0).trans rfl, (blk_cell BK658.out 1).trans rfl, (blk_cell BK658.out 2).trans rfl, hx662_0⟩ (fun hHeld => ?_); refine with_tabW fullerlaw11_InferSame.tab12 fullerlaw11_InferSame.bits12 (fun HT_ HW_ => ?_)
              generalize w26.drew = w27 at HO_0 HO_8 HL657_1 HL657_2 HO661 BK658 HB HO670 hx662_0 hHeld ⊢
              refine pu_ 0 (some 46) L7_1 HT_ ?_
              refine pu_ 4 (some 50) L7_2 HT_ ?_
              refine pu_ 5 (some 51) L7_3 HT_ ?_
              refine pu_ 9 (some 55) L7_4 HT_ ?_
              refine ta_ 1 (some 47) L7_5 HT_ HW_ hHeld ?_ (hy := by rintro w' ⟨s0, s1, s2, s3⟩; go_simp; with_reducible rfl)
              refine pu_ 2 (some 48) L7_6 HT_ ?_
              refine ta_ 3 (some 49) L7_7 HT_ HW_ hHeld ?_ (hy := by rintro w' ⟨s0, s1, s2, s3⟩; go_simp; with_reducible rfl)
              refine pu_ 6 (some 52) L7_8 HT_ ?_
              refine pu_ 7 (some 53) L7_9 HT_ ?_
              refine ta_ 10 (some 56) L7_10 HT_ HW_ hHeld ?_ (hy := by rintro w' ⟨s0, s1, s2, s3⟩; go_simp; with_reducible rfl)
              refine pu_ 11 (some 57) L7_11 HT_ ?_
              refine one_ (i := 8) (N := some 54) L7_12 rfl rfl (one_of HT_.out (by kernel_rfl)) (by decide) (fun K hK => ?_)
              refine Kd.R_lit_step (Kd.int .i64) _ 3 ?hg (N := 54) ?hd (xs := ([Int.tmod (wrap64 ((rd y659 0) + (wrap64 (a2)))) 8] : List Int)) (inner := [.int .i64 (Int.tmod (wrap64 ((rd y659 0) + (wrap64 (a2)))) 8)]) (ok := fun _ => True) (okp := fun _ => True) ?hr ?hp (fun _ hk => hk) trivial (Below.refl _ _) (Nat.le_refl _) (by simp) ?_; (case hd => rfl); (case hg => rfl); (case hr => first | (go_simp; done) | (go_simp; rfl)); (case hp => exact (Reps.one (show Kd.M (Kd.int .i64) _ _ _ (Int.tmod (wrap64 ((rd y659 0) + (wrap64 (a2)))) 8) [.int .i64 (Int.tmod (wrap64 ((rd y659 0) + (wrap64 (a2)))) 8)] from rfl) (Reps.none _ _)))
              intro v664 w29 ho30 hb hg_ hnew_
              have HS3_ := (hb.cell (World.block_lt_of_cell? _ _ (hHeld.2.2.2))).trans (hHeld.2.2.2)
              clear hg_ hnew_
              (first | rw [← Ny663.out] at ho30 | (simp only [Int.reduceToNat] at ho30; rw [← Ny663.out] at ho30))
              have n0_ := Aside0.mk (Kd.V_elder' (mvV_ HO_0.out) (Kd.R_base ho30) hb)
              have n1_ := Aside0.mk (Kd.N_elder' (mvN_ HO_8.out) (Kd.R_base ho30) hb)
              have n2_ := Aside0.mk (Kd.V_elder' (mvV_ HL657_1.out) (Kd.R_base ho30) hb)
              have n3_ := Aside0.mk (Kd.V_elder' (mvV_ HL657_2.out) (Kd.R_base ho30) hb)
              have n4_ := Aside0.mk (Kd.R_elder' (mvR_ HO661.out) (Kd.R_base ho30) hb)
              have n5_ := Aside0.mk (Kd.V_elder' (mvV_ HO670.out) (Kd.R_base ho30) hb)
              have n6_ := Aside0.mk (Kd.R_lower (Kd.R_new' (Kd.R_newM (M := fun k_ => (w.heap.size ≤ k_)) ho30 (below_size (bq1_ HB.out GE658.out)) (fun k_ h_ => h_)) (Kd.R_lt (mvR_ HO661.out))) (below_size (bq1_ HB.out GE658.out)))
              have n7_ := Aside0.mk (blk_below (g := gb658) (o := .cells #[.int .i64 ((rd_T25 l0 x9_2).f0), .slice A657_1 ((rd_T25 l0 x9_2).f1).length c657_1, .slice (some ad662) y659.length co24] 25 (0, 0)) (mvK_ BK658.out) hb)
              have n8_ := Aside0.mk (below_step (bq1_ HB.out GE658.out) hb)
              clear HO_0 HO_8 HL657_1 HL657_2 HO661 HO670 BK658 HB
              have HO_0 := n0_
              have HO_8 := n1_
              have HL657_1 := n2_
              have HL657_2 := n3_
              have HO661 := n4_
              have HO670 := n5_
              have HO665 := n6_
              have BK658 := n7_
              have HB := n8_
              clear n0_ n1_ n2_ n3_ n4_ n5_ n6_ n7_ n8_ hb ho30
              refine hK.out _ _ ⟨(blk_cell BK658.out 0).trans rfl, (blk_cell BK658.out 1).trans rfl, (blk_cell BK658.out 2).trans rfl, HS3_⟩ (fun hHeld => ?_)
              clear hK K
              refine norm_ (a' := ?_) ?_ ?_
              rotate_left
              ·show Act.put _ (some 54) _ = _
               simp only [Act.put, sA_, sB_, sC_, i64_w, i32_w]
               rfl
              refine last_ (i := 12) (N := some 58) L7_13 rfl rfl (one_of HT_.out (by kernel_rfl)) (by decide) (fun K hK => ?_)
              refine Kd.R_append_rows_step (Kd.int .i64) (w0 := w) w.heap.size (by rfl) (.tmp 54) (.tmp 57) 23 3 (.int .i64 0) 8 rfl Try.underlying23 info3 rfl (by decide) (by omega) v664 y663 y666 _ _ _ (fun k_ => (w.heap.size ≤ k_) ∧ some k_ ≠ (.slice (some ad662) y659.length co24 : Value).ownBlock) (fun _ => False) rfl rfl ?aO ?aR (fun _ _ h => h) (fun _ h => h.elim) ?aF ?aB ?aS ?aL ?_
              (case aR => exact mvC_ ((Kd.V_reads' HO670.out).2.2))
              (case aB => exact (bq1_ HB.out GE658.out))
              (case aF => exact (fun k_ hk => ⟨(Nat.le_trans (below_size (bq1_ HB.out GE658.out)) hk), Kd.fresh' (Kd.R_lt (mvR_ HO661.out)) k_ hk⟩))
              (case aO => exact (by (with_reducible repeat (first | apply Kd.R_alloc | apply Kd.R_drewN | apply Kd.R_drew)); exact Kd.R_mono HO665.out (fun _ hk => ⟨hk.1.1, hk.2⟩)))
              (case aS => exact (below_size (bq1_ HB.out GE658.out)))
              (case aL => have := LMc18.out; omega)
              intro v672 w31 ho hb hg hat
              rw [← Ny671.out] at ho
              have n0_ := Aside0.mk (Kd.V_afterv (ok := (fun k_ => (P0_ k_ ∨ w.heap.size ≤ k_) ∧ some k_ ≠ (u8 : Value).ownBlock ∧ some k_ ≠ (.slice (some ad662) y659.length co24 : Value).ownBlock ∧ k_ ≠ gb658)) (mvV_ HO_0.out) hg hat)
              have n1_ := Aside0.mk (Kd.N_afterv (ok := (fun k_ => (P0_ k_ ∨ w.heap.size ≤ k_) ∧ some k_ ≠ (.slice (some ad662) y659.length co24 : Value).ownBlock ∧ k_ ≠ gb658)) (mvN_ HO_8.out) hg hat)
              have n2_ := Aside0.mk (Kd.V_afterv (ok := (fun k_ => (P0_ k_ ∨ w.heap.size ≤ k_) ∧ some k_ ≠ (u8 : Value).ownBlock ∧ some k_ ≠ (.slice (some ad662) y659.length co24 : Value).ownBlock ∧ k_ ≠ gb658)) (mvV_ HL657_1.out) hg hat)
              have n3_ := Aside0.mk (Kd.V_afterv (ok := (fun k_ => (P0_ k_ ∨ w.heap.size ≤ k_) ∧ some k_ ≠ (u8 : Value).ownBlock ∧ some k_ ≠ (.slice (some ad662) y659.length co24 : Value).ownBlock ∧ k_ ≠ gb658)) (mvV_ HL657_2.out) hg hat)
              have n4_ := Aside0.mk (blk_grown (g := gb658) (o := .cells #[.int .i64 ((rd_T25 l0 x9_2).f0), .slice A657_1 ((rd_T25 l0 x9_2).f1).length c657_1, .slice (some ad662) y659.length co24] 25 (0, 0)) (mvK_ BK658.out) hg (Kd.R_ne HO665.out BK658.out (by decide)))
              have n5_ := Aside0.mk (Kd.R_after (ok := (fun k_ => (w.heap.size ≤ k_))) (mvR_ HO661.out) hg hat)
              have n6_ := Aside0.mk (Kd.V_afterv (ok := (fun k_ => (P0_ k_ ∨ w.heap.size ≤ k_) ∧ some k_ ≠ (u8 : Value).ownBlock ∧ k_ ≠ gb658)) (by (with_reducible repeat (first | apply Kd.V_alloc | apply Kd.V_drewN | apply Kd.V_drew)); exact Kd.V_mono HO670.out (fun _ hk => ⟨⟨hk.1.1.1, ⟨hk.1.1.2, hk.1.2⟩⟩, hk.2⟩)) hg hat)
              have n7_ := Aside0.mk (hb)
              have n8_ := Aside0.mk (ho)
              clear HO_0 HO_8 HL657_1 HL657_2 BK658 HO661 HO670 HB HO665
              have HO_0 := n0_
              have HO_8 := n1_
              have HL657_1 := n2_
              have HL657_2 := n3_
              have BK658 := n4_
              have HO661 := n5_
              have HO670 := n6_
              have HB := n7_
              have HO673 := n8_
              clear n0_ n1_ n2_ n3_ n4_ n5_ n6_ n7_ n8_ ho hb hg hat
              obtain ⟨Ao32, co32, eo32⟩ := Kd.R_slice HO673.out
              (first | subst eo32 | (injection eo32 with f1_ f2_ f3_; have f4_ := f1_.symm; have f5_ := f3_.symm; clear f1_ f2_ f3_; subst f4_; subst f5_))
              refine hK.out _ _ ?_
              clear hK K
              refine norm_ (a' := ?_) ?_ ?_
              rotate_left
              ·show Act.put _ (some 58) _ = _
               simp only [Act.put, sA_, sB_, sC_, i64_w, i32_w]
               rfl
              refine pu_ 13 (some 59) L7_14 HT_ ?_
              refine last_ (i := 14) (N := none) L7_15 rfl rfl (one_of HT_.out (by kernel_rfl)) (by decide) (fun K hK => ?_)
              have hs33 : w31.cell? ⟨gb658, 2, none⟩ = some (.slice (some ad662) y659.length co24) := (blk_cell BK658.out 2).trans rfl
              have hfs33 := blk_frozen BK658.out 2
              refine skip_ (w1 := ?_) (by rfl) rfl ?_ ?_
              rotate_left
              ·go_simp
               rfl
              refine hK.out _ _ ?_
              clear hK K
              refine done_ (done_of HT_.out (by kernel_rfl)) ?_
              have n0_ : Aside0 (Kd.V k25 25 (w31.setCell ⟨gb658, 2, none⟩ (.slice Ao32 y671.length co32)) w.heap.size (fun k_ => (P0_ k_ ∨ w.heap.size ≤ k_) ∧ some k_ ≠ (u8 : Value).ownBlock ∧ some k_ ≠ (.slice (some ad662) y659.length co24 : Value).ownBlock ∧ some k_ ≠ (.slice Ao32 y671.length co32 : Value).ownBlock ∧ k_ ≠ gb658) (.slice (some ad657) l0.length c0) l0) := ⟨by (with_reducible repeat (first | apply Kd.V_alloc | apply Kd.V_drewN | apply Kd.V_drew)); exact Kd.V_mono (Kd.V_far (p := ⟨gb658, 2, none⟩) (Kd.V_mono HO_0.out (fun k_ hk => (⟨hk, hk.1.2.2.2⟩ : _ ∧ k_ ≠ gb658))) (fun _ hk => hk.2) (.slice Ao32 y671.length co32)) (fun _ hk => ⟨hk.1.1.1, ⟨hk.1.1.2.1, ⟨hk.1.1.2.2.1, ⟨hk.1.2, hk.1.1.2.2.2⟩⟩⟩⟩)⟩
              have n1_ : Aside0 (Kd.N k25 25 (w31.setCell ⟨gb658, 2, none⟩ (.slice Ao32 y671.length co32)) w.heap.size (fun k_ => (P0_ k_ ∨ w.heap.size ≤ k_) ∧ some k_ ≠ (.slice (some ad662) y659.length co24 : Value).ownBlock ∧ some k_ ≠ (.slice Ao32 y671.length co32 : Value).ownBlock ∧ k_ ≠ gb658) u8 x8_2) := ⟨by (with_reducible repeat (first | apply Kd.N_alloc | apply Kd.N_drewN | apply Kd.N_drew)); exact Kd.N_mono (Kd.N_far (p := ⟨gb658, 2, none⟩) (Kd.N_mono HO_8.out (fun k_ hk => (⟨hk, hk.1.2.2⟩ : _ ∧ k_ ≠ gb658))) (fun _ hk => hk.2) (.slice Ao32 y671.length co32)) (fun _ hk => ⟨hk.1.1.1, ⟨hk.1.1.2.1, ⟨hk.1.2, hk.1.1.2.2⟩⟩⟩)⟩
              have n2_ : Aside0 (Kd.V (Kd.int .i64) 3 (w31.setCell ⟨gb658, 2, none⟩ (.slice Ao32 y671.length co32)) w.heap.size (fun k_ => (P0_ k_ ∨ w.heap.size ≤ k_) ∧ some k_ ≠ (u8 : Value).ownBlock ∧ some k_ ≠ (.slice (some ad662) y659.length co24 : Value).ownBlock ∧ some k_ ≠ (.slice Ao32 y671.length co32 : Value).ownBlock ∧ k_ ≠ gb658) (.slice A657_1 ((rd_T25 l0 x9_2).f1).length c657_1) ((rd_T25 l0 x9_2).f1)) := ⟨by (with_reducible repeat (first | apply Kd.V_alloc | apply Kd.V_drewN | apply Kd.V_drew)); exact Kd.V_mono (Kd.V_far (p := ⟨gb658, 2, none⟩) (Kd.V_mono HL657_1.out (fun k_ hk => (⟨hk, hk.1.2.2.2⟩ : _ ∧ k_ ≠ gb658))) (fun _ hk => hk.2) (.slice Ao32 y671.length co32)) (fun _ hk => ⟨hk.1.1.1, ⟨hk.1.1.2.1, ⟨hk.1.1.2.2.1, ⟨hk.1.2, hk.1.1.2.2.2⟩⟩⟩⟩)⟩
              have n3_ : Aside0 (Kd.V (Kd.int .i64) 3 (w31.setCell ⟨gb658, 2, none⟩ (.slice Ao32 y671.length co32)) w.heap.size (fun k_ => (P0_ k_ ∨ w.heap.size ≤ k_) ∧ some k_ ≠ (u8 : Value).ownBlock ∧ some k_ ≠ (.slice (some ad662) y659.length co24 : Value).ownBlock ∧ some k_ ≠ (.slice Ao32 y671.length co32 : Value).ownBlock ∧ k_ ≠ gb658) (.slice A657_2 ((rd_T25 l0 x9_2).f2).length c657_2) ((rd_T25 l0 x9_2).f2)) := ⟨by (with_reducible repeat (first | apply Kd.V_alloc | apply Kd.V_drewN | apply Kd.V_drew)); exact Kd.V_mono (Kd.V_far (p := ⟨gb658, 2, none⟩) (Kd.V_mono HL657_2.out (fun k_ hk => (⟨hk, hk.1.2.2.2⟩ : _ ∧ k_ ≠ gb658))) (fun _ hk => hk.2) (.slice Ao32 y671.length co32)) (fun _ hk => ⟨hk.1.1.1, ⟨hk.1.1.2.1, ⟨hk.1.1.2.2.1, ⟨hk.1.2, hk.1.1.2.2.2⟩⟩⟩⟩)⟩
              have n4_ : Aside0 (Kd.R (Kd.int .i64) 3 (w31.setCell ⟨gb658, 2, none⟩ (.slice Ao32 y671.length co32)) w.heap.size (fun k_ => (w.heap.size ≤ k_) ∧ some k_ ≠ (.slice Ao32 y671.length co32 : Value).ownBlock) (.slice (some ad662) y659.length co24) y659) := ⟨by (with_reducible repeat (first | apply Kd.R_alloc | apply Kd.R_drewN | apply Kd.R_drew)); exact Kd.R_mono (Kd.R_far (p := ⟨gb658, 2, none⟩) (Kd.R_types HO661.out BK658.out (by decide)) (fun _ hk => hk.2) (.slice Ao32 y671.length co32)) (fun _ hk => ⟨hk.1.1, hk.1.2⟩)⟩
              have n5_ : Aside0 (Kd.V (Kd.int .i64) 3 (w31.setCell ⟨gb658, 2, none⟩ (.slice Ao32 y671.length co32)) w.heap.size (fun k_ => (P0_ k_ ∨ w.heap.size ≤ k_) ∧ some k_ ≠ (u8 : Value).ownBlock ∧ some k_ ≠ (.slice Ao32 y671.length co32 : Value).ownBlock ∧ k_ ≠ gb658) (.slice A28 y666.length c28) y666) := ⟨by (with_reducible repeat (first | apply Kd.V_alloc | apply Kd.V_drewN | apply Kd.V_drew)); exact Kd.V_mono (Kd.V_far (p := ⟨gb658, 2, none⟩) (Kd.V_mono HO670.out (fun k_ hk => (⟨hk, hk.1.2.2⟩ : _ ∧ k_ ≠ gb658))) (fun _ hk => hk.2) (.slice Ao32 y671.length co32)) (fun _ hk => ⟨hk.1.1.1, ⟨hk.1.1.2.1, ⟨hk.1.2, hk.1.1.2.2⟩⟩⟩)⟩
              have n6_ : Aside0 (Kd.R (Kd.int .i64) 3 (w31.setCell ⟨gb658, 2, none⟩ (.slice Ao32 y671.length co32)) w.heap.size (fun k_ => (w.heap.size ≤ k_) ∧ some k_ ≠ (.slice (some ad662) y659.length co24 : Value).ownBlock) (.slice Ao32 y671.length co32) y671) := ⟨by (with_reducible repeat (first | apply Kd.R_alloc | apply Kd.R_drewN | apply Kd.R_drew)); exact Kd.R_mono (Kd.R_far (p := ⟨gb658, 2, none⟩) (Kd.R_types HO673.out BK658.out (by decide)) (fun _ hk => hk.2) (.slice Ao32 y671.length co32)) (fun _ hk => ⟨hk.1.1, hk.1.2⟩)⟩
              have n7_ : Aside0 ((w31.setCell ⟨gb658, 2, none⟩ (.slice Ao32 y671.length co32)).heap[gb658]? = some (.cells #[.int .i64 ((rd_T25 l0 x9_2).f0), .slice A657_1 ((rd_T25 l0 x9_2).f1).length c657_1, .slice Ao32 y671.length co32] 25 (0, 0))) := ⟨by (with_reducible repeat (first | refine blk_drewN ?_ _ | refine blk_drew ?_ | refine blk_alloc ?_ _)); refine blk_put (cs := #[.int .i64 ((rd_T25 l0 x9_2).f0), .slice A657_1 ((rd_T25 l0 x9_2).f1).length c657_1, .slice (some ad662) y659.length co24]) ?_ 2 _ rfl; (with_reducible repeat (first | refine blk_drewN ?_ _ | refine blk_drew ?_ | refine blk_alloc ?_ _)); exact BK658.out⟩
              have n8_ : Aside0 (Below w.heap.size w (w31.setCell ⟨gb658, 2, none⟩ (.slice Ao32 y671.length co32))) := ⟨bq1_ HB.out GE658.out⟩
              (try clear HO_0)
              (try clear HO_8)
              (try clear HL657_1)
              (try clear HL657_2)
              (try clear HO661)
              (try clear HO670)
              (try clear HO673)
              (try clear BK658)
              (try clear HB)
              generalize (w31.setCell ⟨gb658, 2, none⟩ (.slice Ao32 y671.length co32)) = w34 at n0_ n1_ n2_ n3_ n4_ n5_ n6_ n7_ n8_ ⊢
              have HO_0 := n0_
              have HO_8 := n1_
              have HL657_1 := n2_
              have HL657_2 := n3_
              have HO661 := n4_
              have HO670 := n5_
              have HO673 := n6_
              have BK658 := n7_
              have HB := n8_
              clear n0_ n1_ n2_ n3_ n4_ n5_ n6_ n7_ n8_
              have hcz35_0 : w34.cell? ⟨gb658, 0, none⟩ = some (.int .i64 ((rd_T25 l0 x9_2).f0)) := (blk_cell BK658.out 0).trans rfl
              have hcz35_1 : w34.cell? ⟨gb658, 1, none⟩ = some (.slice A657_1 ((rd_T25 l0 x9_2).f1).length c657_1) := (blk_cell BK658.out 1).trans rfl
              have hcz35_2 : w34.cell? ⟨gb658, 2, none⟩ = some (.slice Ao32 y671.length co32) := (blk_cell BK658.out 2).trans rfl
              have hfz35_0 := blk_frozen BK658.out 0
              have hfz35_1 := blk_frozen BK658.out 1
              have hfz35_2 := blk_frozen BK658.out 2
              try go_wp2_with (first | ((with_reducible refine gate_builtin (b := .append) (xs := #[.tmp 60, .tmp 62]) rfl ?_); at_builtin; refine Kd.N_append k25 (w0 := w) w.heap.size rfl (.tmp 60) (.tmp 62) 22 25 (.agg #[(.int .i64 0), (.slice none 0 0), (.slice none 0 0)]) 56 rfl Try.underlying22 info25 rfl (by decide) (by omega) u8 x8_2 (⟨(rd_T25 l0 x9_2).f0, (rd_T25 l0 x9_2).f1, y671⟩ : S25) [.int .i64 ((rd_T25 l0 x9_2).f0), .slice A657_1 ((rd_T25 l0 x9_2).f1).length c657_1, .slice Ao32 y671.length co32] (fun k_ => (P0_ k_ ∨ w.heap.size ≤ k_) ∧ some k_ ≠ (.slice (some ad662) y659.length co24 : Value).ownBlock ∧ k_ ≠ gb658) (fun k_ => ((fun k_ => (P0_ k_ ∨ w.heap.size ≤ k_) ∧ some k_ ≠ (.slice (some ad662) y659.length co24 : Value).ownBlock ∧ k_ ≠ gb658)) k_ ∧ some k_ ≠ (u8 : Value).ownBlock) rfl rfl ?aP (fun _ hk => hk) ?aF ?aO ?aB ?aS ?aL ?_; (case aP => exact (k25_mkF _ _ (⟨(rd_T25 l0 x9_2).f0, (rd_T25 l0 x9_2).f1, y671⟩ : S25) (Kd.V_reads' (Kd.V_mono (ok' := (fun k_ => ((fun k_ => (P0_ k_ ∨ w.heap.size ≤ k_) ∧ some k_ ≠ (.slice (some ad662) y659.length co24 : Value).ownBlock ∧ k_ ≠ gb658)) k_ ∧ some k_ ≠ (u8 : Value).ownBlock)) (HL657_1.out) (fun k_ hk => ⟨⟨hk.1, ⟨hk.2.2.1, hk.2.2.2.2⟩⟩, hk.2.1⟩))).2.1 (Kd.V_F (Kd.V_mono (ok' := (fun k_ => ((fun k_ => (P0_ k_ ∨ w.heap.size ≤ k_) ∧ some k_ ≠ (.slice (some ad662) y659.length co24 : Value).ownBlock ∧ k_ ≠ gb658)) k_ ∧ some k_ ≠ (u8 : Value).ownBlock)) (HL657_1.out) (fun k_ hk => ⟨⟨hk.1, ⟨hk.2.2.1, hk.2.2.2.2⟩⟩, hk.2.1⟩))) (Kd.R_reads' (Kd.R_mono (ok' := (fun k_ => ((fun k_ => (P0_ k_ ∨ w.heap.size ≤ k_) ∧ some k_ ≠ (.slice (some ad662) y659.length co24 : Value).ownBlock ∧ k_ ≠ gb658)) k_ ∧ some k_ ≠ (u8 : Value).ownBlock)) (Kd.R_types (Kd.R_apart' (HO673.out) (Kd.N_typed HO_8.out) (by decide)) BK658.out (by decide)) (fun k_ hk => ⟨⟨(.inr (hk.1.1.1)), ⟨hk.1.1.2, hk.2⟩⟩, hk.1.2⟩))).2.1 (Kd.R_F (Kd.R_mono (ok' := (fun k_ => ((fun k_ => (P0_ k_ ∨ w.heap.size ≤ k_) ∧ some k_ ≠ (.slice (some ad662) y659.length co24 : Value).ownBlock ∧ k_ ≠ gb658)) k_ ∧ some k_ ≠ (u8 : Value).ownBlock)) (Kd.R_types (Kd.R_apart' (HO673.out) (Kd.N_typed HO_8.out) (by decide)) BK658.out (by decide)) (fun k_ hk => ⟨⟨(.inr (hk.1.1.1)), ⟨hk.1.1.2, hk.2⟩⟩, hk.1.2⟩))))); (case aB => exact (bq1_ HB.out GE658.out)); (case aF => exact (fun k_ hk => ⟨(.inr (Nat.le_trans (below_size (bq1_ HB.out GE658.out)) hk)), Kd.fresh' (Kd.R_lt (mvR_ HO661.out)) k_ hk, Kd.freshB (g := gb658) (o := .cells #[.int .i64 ((rd_T25 l0 x9_2).f0), .slice A657_1 ((rd_T25 l0 x9_2).f1).length c657_1, .slice Ao32 y671.length co32] 25 (0, 0)) (mvK_ BK658.out) k_ hk⟩)); (case aO => exact (by (with_reducible repeat (first | apply Kd.N_alloc | apply Kd.N_drewN | apply Kd.N_drew)); exact Kd.N_mono HO_8.out (fun _ hk => ⟨hk.1, ⟨hk.2.1, hk.2.2.2⟩⟩))); (case aS => exact (below_size (bq1_ HB.out GE658.out))); (case aL => have := LMc19.out; omega); intro v675 w36 ho hb hg hat; rw [← Ny674.out] at ho; have HO676 := Aside0.mk (ho); replace HO_0 := Aside0.mk (Kd.V_afterv (ok := (fun k_ => (P0_ k_ ∨ w.heap.size ≤ k_) ∧ some k_ ≠ (.slice (some ad662) y659.length co24 : Value).ownBlock ∧ some k_ ≠ (.slice Ao32 y671.length co32 : Value).ownBlock ∧ k_ ≠ gb658)) (by (with_reducible repeat (first | apply Kd.V_alloc | apply Kd.V_drewN | apply Kd.V_drew)); exact Kd.V_mono HO_0.out (fun _ hk => ⟨⟨hk.1, ⟨hk.2.2.1, ⟨hk.2.2.2.1, hk.2.2.2.2⟩⟩⟩, hk.2.1⟩)) hg hat); replace HL657_1 := Aside0.mk (Kd.V_afterv (ok := (fun k_ => (P0_ k_ ∨ w.heap.size ≤ k_) ∧ some k_ ≠ (.slice (some ad662) y659.length co24 : Value).ownBlock ∧ some k_ ≠ (.slice Ao32 y671.length co32 : Value).ownBlock ∧ k_ ≠ gb658)) (by (with_reducible repeat (first | apply Kd.V_alloc | apply Kd.V_drewN | apply Kd.V_drew)); exact Kd.V_mono HL657_1.out (fun _ hk => ⟨⟨hk.1, ⟨hk.2.2.1, ⟨hk.2.2.2.1, hk.2.2.2.2⟩⟩⟩, hk.2.1⟩)) hg hat); replace HL657_2 := Aside0.mk (Kd.V_afterv (ok := (fun k_ => (P0_ k_ ∨ w.heap.size ≤ k_) ∧ some k_ ≠ (.slice (some ad662) y659.length co24 : Value).ownBlock ∧ some k_ ≠ (.slice Ao32 y671.length co32 : Value).ownBlock ∧ k_ ≠ gb658)) (by (with_reducible repeat (first | apply Kd.V_alloc | apply Kd.V_drewN | apply Kd.V_drew)); exact Kd.V_mono HL657_2.out (fun _ hk => ⟨⟨hk.1, ⟨hk.2.2.1, ⟨hk.2.2.2.1, hk.2.2.2.2⟩⟩⟩, hk.2.1⟩)) hg hat); replace BK658 := Aside0.mk (blk_grown (g := gb658) (o := .cells #[.int .i64 ((rd_T25 l0 x9_2).f0), .slice A657_1 ((rd_T25 l0 x9_2).f1).length c657_1, .slice Ao32 y671.length co32] 25 (0, 0)) (mvK_ BK658.out) hg (Kd.N_away HO_8.out (fun _ hk => hk.2.2.2))); replace HO661 := Aside0.mk (Kd.R_over' (mvR_ HO661.out) (Kd.N_typed (mvN_ HO_8.out)) (by decide) hg); replace HO670 := Aside0.mk (Kd.V_afterv (ok := (fun k_ => (P0_ k_ ∨ w.heap.size ≤ k_) ∧ some k_ ≠ (.slice Ao32 y671.length co32 : Value).ownBlock ∧ k_ ≠ gb658)) (by (with_reducible repeat (first | apply Kd.V_alloc | apply Kd.V_drewN | apply Kd.V_drew)); exact Kd.V_mono HO670.out (fun _ hk => ⟨⟨hk.1, ⟨hk.2.2.1, hk.2.2.2⟩⟩, hk.2.1⟩)) hg hat); replace HB := Aside0.mk (hb); clear HO_8 HO673 ho hb hg hat))
              go_roundg k2
              case measure => have := HJ4.out; have := HK2.out; omega
              case rel => exact ⟨(y674), (wrap64 (x9_2 + 1)), (by first | rfl | (simp; done) | (simp [*]; done)), H', ⟨by have := HJ4.out; have := HK2.out; omega⟩, ⟨by (with_reducible repeat (first | apply Kd.V_alloc | apply Kd.V_drewN | apply Kd.V_drew)); exact Kd.V_mono HO_0.out (fun _ hk => ⟨hk.1.1, hk.2⟩)⟩, ⟨by (with_reducible repeat (first | apply Kd.N_alloc | apply Kd.N_drewN | apply Kd.N_drew)); exact Kd.N_mono HO676.out (fun _ hk => hk.1)⟩, ⟨bq1_ HB.out GE658.out⟩⟩
             ·rw [if_neg c19] at H
              exact absurd H (by simp)
            ·rw [if_neg c18] at H
             exact absurd H (by simp)
           ·rw [if_neg c17] at H
            exact absurd H (by simp)
          ·rw [if_neg c16] at H
           exact absurd H (by simp)
         ·as_aux_lemma =>
          rw [if_neg c15] at H
          have c15b0 : (((rd_T25 l0 x9_2).f0) == 2) = false := beq_eq_false_iff_ne.mpr c15
          have c15b1 : (((rd_T25 l0 x9_2).f0) != 2) = true := bne_iff_ne.mpr c15
          by_cases c37 : x8_2.length < 2513169434916
          ·as_aux_lemma =>
           rw [if_pos c37] at H
           have LMc37 := Aside0.mk c37
           clear c37
           obtain ⟨y677, hy677⟩ : ∃ y_ : List (S25), y_ = (x8_2 ++ [(⟨(rd_T25 l0 x9_2).f0, (rd_T25 l0 x9_2).f1, y659⟩ : S25)]) := ⟨_, rfl⟩
           replace H : (fullerlaw11_InferSame.l0 k2 l0 a1 a2 t643 y677 (wrap64 (x9_2 + 1))) = some r := by first | (rw [hy677]; with_reducible exact H) | (have H2_ := (Option.bind_some _ _).symm.trans H; rw [hy677]; with_reducible exact H2_) | (have H2_ := (Option.bind_some _ _).symm.trans H; with_reducible exact H2_) | with_reducible exact H | (rw [hy677]; exact H) | exact H
           have Ny677 := Aside0.mk hy677
           clear hy677
           have H' := Aside0.mk H
           clear H
           have p657 : 0 ≤ (x9_2 : Int) := od_
           have q657 : x9_2 < (l0.length : Int) := od_
           obtain ⟨ad657, A657_1, c657_1, A657_2, c657_2, e657, hx657_0, hx657_1, hx657_2, hl657_1, hi657_1, hl657_2, hi657_2⟩ := at_T25 (Kd.V_reads' HO_0.out).2.2 x9_2 p657 q657
           cases e657
           obtain ⟨ce657, hce657, hMe657, hcc657⟩ := Kd.V_get HO_0.out z25 x9_2 p657 (by first | exact q657 | exact od_ | (have e_ := (Kd.V_reads' HO_0.out).1; omega))
           obtain ⟨ua657_1, uc657_1, ua657_2, uc657_2, rfl, ul657_1, ge657_1, ul657_2, ge657_2⟩ := k25_openF hMe657
           have hv657_1 := hcc657 1 _ rfl
           rw [add_field _ _ 1 (by omega)] at hv657_1
           replace hv657_1 := Option.some.inj (hv657_1.symm.trans hx657_1)
           injection hv657_1 with hva_ hvn_ hvc_
           rw [hva_] at ge657_1
           rw [hvc_] at ul657_1
           have HL657_1 := Aside0.mk (show Kd.V (Kd.int .i64) 3 _ w.heap.size _ _ ((rd_T25 l0 x9_2).f1) from Kd.V_mk ul657_1 ge657_1)
           clear hva_ hvn_ hvc_ ge657_1 ul657_1
           have hv657_2 := hcc657 2 _ rfl
           rw [add_field _ _ 2 (by omega)] at hv657_2
           replace hv657_2 := Option.some.inj (hv657_2.symm.trans hx657_2)
           injection hv657_2 with hva_ hvn_ hvc_
           rw [hva_] at ge657_2
           rw [hvc_] at ul657_2
           have HL657_2 := Aside0.mk (show Kd.V (Kd.int .i64) 3 _ w.heap.size _ _ ((rd_T25 l0 x9_2).f2) from Kd.V_mk ul657_2 ge657_2)
           clear hva_ hvn_ hvc_ ge657_2 ul657_2 hcc657 hce657
           have HR657_1 := Aside0.mk hi657_1
           have HC657_1 := Aside0.mk hl657_1
           clear hi657_1 hl657_1
           have HR657_2 := Aside0.mk hi657_2
           have HC657_2 := Aside0.mk hl657_2
           clear hi657_2 hl657_2
           replace p657 := eq_true p657
           replace q657 := eq_true q657
           go_wp2_with (first | ((with_reducible refine gate_dst (N := 10) rfl ?_); refine box_event ?hg (N := 10) ?hd (cs := #[.int .i64 0, .slice none 0 0, .slice none 0 0]) (t := 25) ?hr ?_; (case hd => rfl); (case hg => rfl); (case hr => first | (go_simp; done) | (go_simp; rfl)); intro gb658 hg w38 hbox hb; have BK658 := Aside0.mk (hbox); have GW658 := Aside0.mk ((by rw [hg]; exact (below_size (bq0_ HB.out)) : w.heap.size ≤ gb658)); have GE658 := Aside0.mk ((by rw [hg]; exact (below_size (bq0_ HB.out)) : w.heap.size ≤ gb658)); replace HO_0 := Aside0.mk (Kd.V_below (Kd.V_elderB (mvV_ HO_0.out) gb658 (Nat.le_of_eq hg.symm)) hb); replace HO_8 := Aside0.mk (Kd.N_below (Kd.N_elderB (mvN_ HO_8.out) gb658 (Nat.le_of_eq hg.symm)) hb); replace HL657_1 := Aside0.mk (Kd.V_below (Kd.V_elderB (mvV_ HL657_1.out) gb658 (Nat.le_of_eq hg.symm)) hb); replace HL657_2 := Aside0.mk (Kd.V_below (Kd.V_elderB (mvV_ HL657_2.out) gb658 (Nat.le_of_eq hg.symm)) hb); replace HR657_1 := Aside0.mk (Kd.C_below (by repeat (first | (with_reducible exact HR657_1.out) | (with_reducible refine Kd.C_alloc ?_ _) | (with_reducible refine Kd.C_drewN ?_ _) | (with_reducible refine Kd.C_drew ?_) | exact HR657_1.out)) hb); replace HR657_2 := Aside0.mk (Kd.C_below (by repeat (first | (with_reducible exact HR657_2.out) | (with_reducible refine Kd.C_alloc ?_ _) | (with_reducible refine Kd.C_drewN ?_ _) | (with_reducible refine Kd.C_drew ?_) | exact HR657_2.out)) hb); replace HB := Aside0.mk (below_step (bq0_ HB.out) hb); clear hb hbox hg; have hcz39_0 : w38.cell? ⟨gb658, 0, none⟩ = some (.int .i64 0) := (blk_cell BK658.out 0).trans rfl; have hcz39_1 : w38.cell? ⟨gb658, 1, none⟩ = some (.slice none 0 0) := (blk_cell BK658.out 1).trans rfl; have hcz39_2 : w38.cell? ⟨gb658, 2, none⟩ = some (.slice none 0 0) := (blk_cell BK658.out 2).trans rfl; have hfz39_0 := blk_frozen BK658.out 0; have hfz39_1 := blk_frozen BK658.out 1; have hfz39_2 := blk_frozen BK658.out 2) | ((with_reducible refine gate_dst (N := 41) rfl ?_); refine Kd.R_lit (Kd.int .i64) _ 3 ?hg (N := 41) ?hd (xs := ([a1] : List Int)) (inner := [.int .i64 a1]) (ok := fun _ => True) (okp := fun _ => True) ?hr ?hp (fun _ hk => hk) trivial (Below.refl _ _) (Nat.le_refl _) (by simp) ?_; (case hd => rfl); (case hg => rfl); (case hr => first | (go_simp; done) | (go_simp; rfl)); (case hp => exact (Reps.one (show Kd.M (Kd.int .i64) _ _ _ a1 [.int .i64 a1] from rfl) (Reps.none _ _))); intro v660 w40 ho41 hb hg_ hnew_; clear hg_ hnew_; (first | rw [← Ny659.out] at ho41 | (simp only [Int.reduceToNat] at ho41; rw [← Ny659.out] at ho41)); have HO661 := Aside0.mk (Kd.R_lower (Kd.R_newM (M := fun k_ => (w.heap.size ≤ k_)) ho41 (below_size (bq1_ HB.out GE658.out)) (fun k_ h_ => h_)) (below_size (bq1_ HB.out GE658.out))); replace HO_0 := Aside0.mk (Kd.V_elder' (by (with_reducible repeat (first | apply Kd.V_alloc | apply Kd.V_drewN | apply Kd.V_drew)); exact (Kd.V_mono (Kd.V_far (p := ⟨gb658, 2, none⟩) (Kd.V_far (p := ⟨gb658, 1, none⟩) (Kd.V_far (p := ⟨gb658, 0, none⟩) (Kd.V_mono HO_0.out (fun k_ hk => (⟨hk, hk.2⟩ : _ ∧ k_ ≠ gb658))) (fun _ hk => hk.2) (.int .i64 ((rd_T25 l0 x9_2).f0))) (fun _ hk => hk.2) (.slice A657_1 ((rd_T25 l0 x9_2).f1).length c657_1)) (fun _ hk => hk.2) (.slice A657_2 ((rd_T25 l0 x9_2).f2).length c657_2)) (fun _ h_ => h_.1))) (Kd.R_base ho41) hb); replace HO_8 := Aside0.mk (Kd.N_elder' (by (with_reducible repeat (first | apply Kd.N_alloc | apply Kd.N_drewN | apply Kd.N_drew)); exact (Kd.N_mono (Kd.N_far (p := ⟨gb658, 2, none⟩) (Kd.N_far (p := ⟨gb658, 1, none⟩) (Kd.N_far (p := ⟨gb658, 0, none⟩) (Kd.N_mono HO_8.out (fun k_ hk => (⟨hk, hk.2⟩ : _ ∧ k_ ≠ gb658))) (fun _ hk => hk.2) (.int .i64 ((rd_T25 l0 x9_2).f0))) (fun _ hk => hk.2) (.slice A657_1 ((rd_T25 l0 x9_2).f1).length c657_1)) (fun _ hk => hk.2) (.slice A657_2 ((rd_T25 l0 x9_2).f2).length c657_2)) (fun _ h_ => h_.1))) (Kd.R_base ho41) hb); replace HR657_1 := Aside0.mk (Kd.C_below ((Kd.V_reads' (by (with_reducible repeat (first | apply Kd.V_alloc | apply Kd.V_drewN | apply Kd.V_drew)); exact (Kd.V_mono (Kd.V_far (p := ⟨gb658, 2, none⟩) (Kd.V_far (p := ⟨gb658, 1, none⟩) (Kd.V_far (p := ⟨gb658, 0, none⟩) (Kd.V_mono HL657_1.out (fun k_ hk => (⟨hk, hk.2⟩ : _ ∧ k_ ≠ gb658))) (fun _ hk => hk.2) (.int .i64 ((rd_T25 l0 x9_2).f0))) (fun _ hk => hk.2) (.slice A657_1 ((rd_T25 l0 x9_2).f1).length c657_1)) (fun _ hk => hk.2) (.slice A657_2 ((rd_T25 l0 x9_2).f2).length c657_2)) (fun _ h_ => h_.1)))).2.2) hb); replace HL657_1 := Aside0.mk (Kd.V_elder' (by (with_reducible repeat (first | apply Kd.V_alloc | apply Kd.V_drewN | apply Kd.V_drew)); exact (Kd.V_mono (Kd.V_far (p := ⟨gb658, 2, none⟩) (Kd.V_far (p := ⟨gb658, 1, none⟩) (Kd.V_far (p := ⟨gb658, 0, none⟩) (Kd.V_mono HL657_1.out (fun k_ hk => (⟨hk, hk.2⟩ : _ ∧ k_ ≠ gb658))) (fun _ hk => hk.2) (.int .i64 ((rd_T25 l0 x9_2).f0))) (fun _ hk => hk.2) (.slice A657_1 ((rd_T25 l0 x9_2).f1).length c657_1)) (fun _ hk => hk.2) (.slice A657_2 ((rd_T25 l0 x9_2).f2).length c657_2)) (fun _ h_ => h_.1))) (Kd.R_base ho41) hb); replace HR657_2 := Aside0.mk (Kd.C_below ((Kd.V_reads' (by (with_reducible repeat (first | apply Kd.V_alloc | apply Kd.V_drewN | apply Kd.V_drew)); exact (Kd.V_mono (Kd.V_far (p := ⟨gb658, 2, none⟩) (Kd.V_far (p := ⟨gb658, 1, none⟩) (Kd.V_far (p := ⟨gb658, 0, none⟩) (Kd.V_mono HL657_2.out (fun k_ hk => (⟨hk, hk.2⟩ : _ ∧ k_ ≠ gb658))) (fun _ hk => hk.2) (.int .i64 ((rd_T25 l0 x9_2).f0))) (fun _ hk => hk.2) (.slice A657_1 ((rd_T25 l0 x9_2).f1).length c657_1)) (fun _ hk => hk.2) (.slice A657_2 ((rd_T25 l0 x9_2).f2).length c657_2)) (fun _ h_ => h_.1)))).2.2) hb); replace HL657_2 := Aside0.mk (Kd.V_elder' (by (with_reducible repeat (first | apply Kd.V_alloc | apply Kd.V_drewN | apply Kd.V_drew)); exact (Kd.V_mono (Kd.V_far (p := ⟨gb658, 2, none⟩) (Kd.V_far (p := ⟨gb658, 1, none⟩) (Kd.V_far (p := ⟨gb658, 0, none⟩) (Kd.V_mono HL657_2.out (fun k_ hk => (⟨hk, hk.2⟩ : _ ∧ k_ ≠ gb658))) (fun _ hk => hk.2) (.int .i64 ((rd_T25 l0 x9_2).f0))) (fun _ hk => hk.2) (.slice A657_1 ((rd_T25 l0 x9_2).f1).length c657_1)) (fun _ hk => hk.2) (.slice A657_2 ((rd_T25 l0 x9_2).f2).length c657_2)) (fun _ h_ => h_.1))) (Kd.R_base ho41) hb); replace BK658 := Aside0.mk (blk_below (g := gb658) (o := .cells #[.int .i64 ((rd_T25 l0 x9_2).f0), .slice A657_1 ((rd_T25 l0 x9_2).f1).length c657_1, .slice A657_2 ((rd_T25 l0 x9_2).f2).length c657_2] 25 (0, 0)) (by (with_reducible repeat (first | refine blk_drewN ?_ _ | refine blk_drew ?_ | refine blk_alloc ?_ _)); refine blk_put (cs := #[.int .i64 ((rd_T25 l0 x9_2).f0), .slice A657_1 ((rd_T25 l0 x9_2).f1).length c657_1, .slice none 0 0]) ?_ 2 _ rfl; (with_reducible repeat (first | refine blk_drewN ?_ _ | refine blk_drew ?_ | refine blk_alloc ?_ _)); refine blk_put (cs := #[.int .i64 ((rd_T25 l0 x9_2).f0), .slice none 0 0, .slice none 0 0]) ?_ 1 _ rfl; (with_reducible repeat (first | refine blk_drewN ?_ _ | refine blk_drew ?_ | refine blk_alloc ?_ _)); refine blk_put (cs := #[.int .i64 0, .slice none 0 0, .slice none 0 0]) ?_ 0 _ rfl; (with_reducible repeat (first | refine blk_drewN ?_ _ | refine blk_drew ?_ | refine blk_alloc ?_ _)); exact BK658.out) hb); replace HB := Aside0.mk (below_step (bq1_ HB.out GE658.out) hb); clear hb ho41; obtain ⟨Ao42, co42, eo42⟩ := Kd.R_slice HO661.out; subst eo42; have hcz43_0 : w40.cell? ⟨gb658, 0, none⟩ = some (.int .i64 ((rd_T25 l0 x9_2).f0)) := (blk_cell BK658.out 0).trans rfl; have hcz43_1 : w40.cell? ⟨gb658, 1, none⟩ = some (.slice A657_1 ((rd_T25 l0 x9_2).f1).length c657_1) := (blk_cell BK658.out 1).trans rfl; have hcz43_2 : w40.cell? ⟨gb658, 2, none⟩ = some (.slice A657_2 ((rd_T25 l0 x9_2).f2).length c657_2) := (blk_cell BK658.out 2).trans rfl; have hfz43_0 := blk_frozen BK658.out 0; have hfz43_1 := blk_frozen BK658.out 1; have hfz43_2 := blk_frozen BK658.out 2) | ((with_reducible refine gate_store (t := 23) (p := 42) rfl ?_); refine store_event (t := 23) (p := 42) (v := ?vo_w44) (w1 := (w40.setCell ⟨gb658, 2, none⟩ (.slice Ao42 y659.length co42))) ?hg ?ho ?hn ?hr ?_; (case ho => rfl); (case hg => rfl); (case hn => rfl); (case hr => first | (go_simp; done) | (go_simp; rfl)); intro w44 hw; have n0_ : Aside0 (Kd.V k25 25 w44 w.heap.size (fun k_ => (P0_ k_ ∨ w.heap.size ≤ k_) ∧ some k_ ≠ (u8 : Value).ownBlock ∧ some k_ ≠ (.slice Ao42 y659.length co42 : Value).ownBlock ∧ k_ ≠ gb658) (.slice (some ad657) l0.length c0) l0) := ⟨(by rw [hw]; exact (by (with_reducible repeat (first | apply Kd.V_alloc | apply Kd.V_drewN | apply Kd.V_drew)); exact Kd.V_mono (Kd.V_far (p := ⟨gb658, 2, none⟩) (Kd.V_mono HO_0.out (fun k_ hk => (⟨hk, hk.1.2⟩ : _ ∧ k_ ≠ gb658))) (fun _ hk => hk.2) (.slice Ao42 y659.length co42)) (fun _ hk => ⟨hk.1.1.1.1, ⟨hk.1.1.1.2, ⟨hk.1.2, hk.1.1.2⟩⟩⟩)))⟩; have n1_ : Aside0 (Kd.N k25 25 w44 w.heap.size (fun k_ => (P0_ k_ ∨ w.heap.size ≤ k_) ∧ some k_ ≠ (.slice Ao42 y659.length co42 : Value).ownBlock ∧ k_ ≠ gb658) u8 x8_2) := ⟨(by rw [hw]; exact (by (with_reducible repeat (first | apply Kd.N_alloc | apply Kd.N_drewN | apply Kd.N_drew)); exact Kd.N_mono (Kd.N_far (p := ⟨gb658, 2, none⟩) (Kd.N_mono HO_8.out (fun k_ hk => (⟨hk, hk.1.2⟩ : _ ∧ k_ ≠ gb658))) (fun _ hk => hk.2) (.slice Ao42 y659.length co42)) (fun _ hk => ⟨hk.1.1.1, ⟨hk.1.2, hk.1.1.2⟩⟩)))⟩; have n2_ : Aside0 (Kd.V (Kd.int .i64) 3 w44 w.heap.size (fun k_ => (P0_ k_ ∨ w.heap.size ≤ k_) ∧ some k_ ≠ (u8 : Value).ownBlock ∧ some k_ ≠ (.slice Ao42 y659.length co42 : Value).ownBlock ∧ k_ ≠ gb658) (.slice A657_1 ((rd_T25 l0 x9_2).f1).length c657_1) ((rd_T25 l0 x9_2).f1)) := ⟨(by rw [hw]; exact (by (with_reducible repeat (first | apply Kd.V_alloc | apply Kd.V_drewN | apply Kd.V_drew)); exact Kd.V_mono (Kd.V_far (p := ⟨gb658, 2, none⟩) (Kd.V_mono HL657_1.out (fun k_ hk => (⟨hk, hk.1.2⟩ : _ ∧ k_ ≠ gb658))) (fun _ hk => hk.2) (.slice Ao42 y659.length co42)) (fun _ hk => ⟨hk.1.1.1.1, ⟨hk.1.1.1.2, ⟨hk.1.2, hk.1.1.2⟩⟩⟩)))⟩; have n3_ : Aside0 (Kd.V (Kd.int .i64) 3 w44 w.heap.size (fun k_ => (P0_ k_ ∨ w.heap.size ≤ k_) ∧ some k_ ≠ (u8 : Value).ownBlock ∧ some k_ ≠ (.slice Ao42 y659.length co42 : Value).ownBlock ∧ k_ ≠ gb658) (.slice A657_2 ((rd_T25 l0 x9_2).f2).length c657_2) ((rd_T25 l0 x9_2).f2)) := ⟨(by rw [hw]; exact (by (with_reducible repeat (first | apply Kd.V_alloc | apply Kd.V_drewN | apply Kd.V_drew)); exact Kd.V_mono (Kd.V_far (p := ⟨gb658, 2, none⟩) (Kd.V_mono HL657_2.out (fun k_ hk => (⟨hk, hk.1.2⟩ : _ ∧ k_ ≠ gb658))) (fun _ hk => hk.2) (.slice Ao42 y659.length co42)) (fun _ hk => ⟨hk.1.1.1.1, ⟨hk.1.1.1.2, ⟨hk.1.2, hk.1.1.2⟩⟩⟩)))⟩; have n4_ : Aside0 (Kd.R (Kd.int .i64) 3 w44 w.heap.size (fun k_ => (w.heap.size ≤ k_)) (.slice Ao42 y659.length co42) y659) := ⟨(by rw [hw]; exact (by (with_reducible repeat (first | apply Kd.R_alloc | apply Kd.R_drewN | apply Kd.R_drew)); exact Kd.R_mono (Kd.R_far (p := ⟨gb658, 2, none⟩) (Kd.R_types HO661.out BK658.out (by decide)) (fun _ hk => hk.2) (.slice Ao42 y659.length co42)) (fun _ hk => hk.1.1)))⟩; have n5_ : Aside0 (w44.heap[gb658]? = some (.cells #[.int .i64 ((rd_T25 l0 x9_2).f0), .slice A657_1 ((rd_T25 l0 x9_2).f1).length c657_1, .slice Ao42 y659.length co42] 25 (0, 0))) := ⟨(by rw [hw]; exact (by (with_reducible repeat (first | refine blk_drewN ?_ _ | refine blk_drew ?_ | refine blk_alloc ?_ _)); refine blk_put (cs := #[.int .i64 ((rd_T25 l0 x9_2).f0), .slice A657_1 ((rd_T25 l0 x9_2).f1).length c657_1, .slice A657_2 ((rd_T25 l0 x9_2).f2).length c657_2]) ?_ 2 _ rfl; (with_reducible repeat (first | refine blk_drewN ?_ _ | refine blk_drew ?_ | refine blk_alloc ?_ _)); exact BK658.out))⟩; have n6_ : Aside0 (Below w.heap.size w w44) := ⟨(by rw [hw]; exact (bq1_ HB.out GE658.out))⟩; clear hw; clear HO_0; clear HO_8; clear HL657_1; clear HL657_2; clear HO661; clear BK658; clear HB; have HO_0 := n0_; have HO_8 := n1_; have HL657_1 := n2_; have HL657_2 := n3_; have HO661 := n4_; have BK658 := n5_; have HB := n6_; clear n0_ n1_ n2_ n3_ n4_ n5_ n6_; have hcz45_0 : w44.cell? ⟨gb658, 0, none⟩ = some (.int .i64 ((rd_T25 l0 x9_2).f0)) := (blk_cell BK658.out 0).trans rfl; have hcz45_1 : w44.cell? ⟨gb658, 1, none⟩ = some (.slice A657_1 ((rd_T25 l0 x9_2).f1).length c657_1) := (blk_cell BK658.out 1).trans rfl; have hcz45_2 : w44.cell? ⟨gb658, 2, none⟩ = some (.slice Ao42 y659.length co42) := (blk_cell BK658.out 2).trans rfl; have hfz45_0 := blk_frozen BK658.out 0; have hfz45_1 := blk_frozen BK658.out 1; have hfz45_2 := blk_frozen BK658.out 2) | ((with_reducible refine gate_builtin (b := .append) (xs := #[.tmp 60, .tmp 62]) rfl ?_); at_builtin; refine Kd.N_append k25 (w0 := w) w.heap.size rfl (.tmp 60) (.tmp 62) 22 25 (.agg #[(.int .i64 0), (.slice none 0 0), (.slice none 0 0)]) 56 rfl Try.underlying22 info25 rfl (by decide) (by omega) u8 x8_2 (⟨(rd_T25 l0 x9_2).f0, (rd_T25 l0 x9_2).f1, y659⟩ : S25) [.int .i64 ((rd_T25 l0 x9_2).f0), .slice A657_1 ((rd_T25 l0 x9_2).f1).length c657_1, .slice Ao42 y659.length co42] (fun k_ => (P0_ k_ ∨ w.heap.size ≤ k_) ∧ k_ ≠ gb658) (fun k_ => ((fun k_ => (P0_ k_ ∨ w.heap.size ≤ k_) ∧ k_ ≠ gb658)) k_ ∧ some k_ ≠ (u8 : Value).ownBlock) rfl rfl ?aP (fun _ hk => hk) ?aF ?aO ?aB ?aS ?aL ?_; (case aP => exact (k25_mkF _ _ (⟨(rd_T25 l0 x9_2).f0, (rd_T25 l0 x9_2).f1, y659⟩ : S25) (Kd.V_reads' (Kd.V_mono (ok' := (fun k_ => ((fun k_ => (P0_ k_ ∨ w.heap.size ≤ k_) ∧ k_ ≠ gb658)) k_ ∧ some k_ ≠ (u8 : Value).ownBlock)) (HL657_1.out) (fun k_ hk => ⟨⟨hk.1, hk.2.2.2⟩, hk.2.1⟩))).2.1 (Kd.V_F (Kd.V_mono (ok' := (fun k_ => ((fun k_ => (P0_ k_ ∨ w.heap.size ≤ k_) ∧ k_ ≠ gb658)) k_ ∧ some k_ ≠ (u8 : Value).ownBlock)) (HL657_1.out) (fun k_ hk => ⟨⟨hk.1, hk.2.2.2⟩, hk.2.1⟩))) (Kd.R_reads' (Kd.R_mono (ok' := (fun k_ => ((fun k_ => (P0_ k_ ∨ w.heap.size ≤ k_) ∧ k_ ≠ gb658)) k_ ∧ some k_ ≠ (u8 : Value).ownBlock)) (Kd.R_types (Kd.R_apart' (HO661.out) (Kd.N_typed HO_8.out) (by decide)) BK658.out (by decide)) (fun k_ hk => ⟨⟨(.inr (hk.1.1)), hk.2⟩, hk.1.2⟩))).2.1 (Kd.R_F (Kd.R_mono (ok' := (fun k_ => ((fun k_ => (P0_ k_ ∨ w.heap.size ≤ k_) ∧ k_ ≠ gb658)) k_ ∧ some k_ ≠ (u8 : Value).ownBlock)) (Kd.R_types (Kd.R_apart' (HO661.out) (Kd.N_typed HO_8.out) (by decide)) BK658.out (by decide)) (fun k_ hk => ⟨⟨(.inr (hk.1.1)), hk.2⟩, hk.1.2⟩))))); (case aB => exact (bq1_ HB.out GE658.out)); (case aF => exact (fun k_ hk => ⟨(.inr (Nat.le_trans (below_size (bq1_ HB.out GE658.out)) hk)), Kd.freshB (g := gb658) (o := .cells #[.int .i64 ((rd_T25 l0 x9_2).f0), .slice A657_1 ((rd_T25 l0 x9_2).f1).length c657_1, .slice Ao42 y659.length co42] 25 (0, 0)) (mvK_ BK658.out) k_ hk⟩)); (case aO => exact (by (with_reducible repeat (first | apply Kd.N_alloc | apply Kd.N_drewN | apply Kd.N_drew)); exact Kd.N_mono HO_8.out (fun _ hk => ⟨hk.1, hk.2.2⟩))); (case aS => exact (below_size (bq1_ HB.out GE658.out))); (case aL => have := LMc37.out; omega); intro v678 w46 ho hb hg hat; rw [← Ny677.out] at ho; have HO679 := Aside0.mk (ho); replace HO_0 := Aside0.mk (Kd.V_afterv (ok := (fun k_ => (P0_ k_ ∨ w.heap.size ≤ k_) ∧ some k_ ≠ (.slice Ao42 y659.length co42 : Value).ownBlock ∧ k_ ≠ gb658)) (by (with_reducible repeat (first | apply Kd.V_alloc | apply Kd.V_drewN | apply Kd.V_drew)); exact Kd.V_mono HO_0.out (fun _ hk => ⟨⟨hk.1, ⟨hk.2.2.1, hk.2.2.2⟩⟩, hk.2.1⟩)) hg hat); replace HL657_1 := Aside0.mk (Kd.V_afterv (ok := (fun k_ => (P0_ k_ ∨ w.heap.size ≤ k_) ∧ some k_ ≠ (.slice Ao42 y659.length co42 : Value).ownBlock ∧ k_ ≠ gb658)) (by (with_reducible repeat (first | apply Kd.V_alloc | apply Kd.V_drewN | apply Kd.V_drew)); exact Kd.V_mono HL657_1.out (fun _ hk => ⟨⟨hk.1, ⟨hk.2.2.1, hk.2.2.2⟩⟩, hk.2.1⟩)) hg hat); replace HL657_2 := Aside0.mk (Kd.V_afterv (ok := (fun k_ => (P0_ k_ ∨ w.heap.size ≤ k_) ∧ some k_ ≠ (.slice Ao42 y659.length co42 : Value).ownBlock ∧ k_ ≠ gb658)) (by (with_reducible repeat (first | apply Kd.V_alloc | apply Kd.V_drewN | apply Kd.V_drew)); exact Kd.V_mono HL657_2.out (fun _ hk => ⟨⟨hk.1, ⟨hk.2.2.1, hk.2.2.2⟩⟩, hk.2.1⟩)) hg hat); replace BK658 := Aside0.mk (blk_grown (g := gb658) (o := .cells #[.int .i64 ((rd_T25 l0 x9_2).f0), .slice A657_1 ((rd_T25 l0 x9_2).f1).length c657_1, .slice Ao42 y659.length co42] 25 (0, 0)) (mvK_ BK658.out) hg (Kd.N_away HO_8.out (fun _ hk => hk.2.2))); replace HB := Aside0.mk (hb); clear HO_8 HO661 ho hb hg hat))
           go_roundg k2
           case measure => have := HJ4.out; have := HK2.out; omega
           case rel => exact ⟨(y677), (wrap64 (x9_2 + 1)), (by first | rfl | (simp; done) | (simp [*]; done)), H', ⟨by have := HJ4.out; have := HK2.out; omega⟩, ⟨by (with_reducible repeat (first | apply Kd.V_alloc | apply Kd.V_drewN | apply Kd.V_drew)); exact Kd.V_mono HO_0.out (fun _ hk => ⟨hk.1.1, hk.2⟩)⟩, ⟨by (with_reducible repeat (first | apply Kd.N_alloc | apply Kd.N_drewN | apply Kd.N_drew)); exact Kd.N_mono HO679.out (fun _ hk => hk.1)⟩, ⟨bq1_ HB.out GE658.out⟩⟩
          ·rw [if_neg c37] at H
           exact absurd H (by simp)
        ·as_aux_lemma =>
         rw [if_neg c14] at H
         have c14b0 : (((rd_T25 l0 x9_2).f0) == 3) = false := beq_eq_false_iff_ne.mpr c14
         have c14b1 : (((rd_T25 l0 x9_2).f0) != 3) = true := bne_iff_ne.mpr c14
         by_cases c47 : ((rd_T25 l0 x9_2).f0) = 2
         ·as_aux_lemma =>
          rw [if_pos c47] at H
          obtain ⟨c47b0, c47b1⟩ := eqT_ c47
          clear c47
          by_cases c48 : 0 < (((rd_T25 l0 x9_2).f2).length : Int)
          ·as_aux_lemma =>
           rw [if_pos c48] at H
           have c48b0 : decide (0 < (((rd_T25 l0 x9_2).f2).length : Int)) = true := decide_eq_true c48
           have c48b1 : decide (0 < ((rd_T25 l0 x9_2).f2).length) = true := decide_eq_true (by omega)
           clear c48
           obtain ⟨y681, hy681⟩ : ∃ y_ : List Int, y_ = (([Int.tmod (wrap64 ((rd ((rd_T25 l0 x9_2).f2) 0) + (wrap64 (a2)))) 8] : List Int)) := ⟨_, rfl⟩
           replace H : (if 1 ≤ (((rd_T25 l0 x9_2).f2).length : Int) then ((some (((rd_T25 l0 x9_2).f2).drop 1 : List Int)).bind fun y684 => (if y681.length + y684.length < 17592186044416 then (if x8_2.length < 2513169434916 then (fullerlaw11_InferSame.l0 k2 l0 a1 a2 t643 (x8_2 ++ [(⟨(rd_T25 l0 x9_2).f0, (rd_T25 l0 x9_2).f1, (y681 ++ y684)⟩ : S25)]) (wrap64 (x9_2 + 1))) else (none)) else (none))) else (none)) = some r := by first | (rw [hy681]; with_reducible exact H) | (have H2_ := (Option.bind_some _ _).symm.trans H; rw [hy681]; with_reducible exact H2_) | (have H2_ := (Option.bind_some _ _).symm.trans H; with_reducible exact H2_) | with_reducible exact H | (rw [hy681]; exact H) | exact H
           have Ny681 := Aside0.mk hy681
           clear hy681
           by_cases c49 : 1 ≤ (((rd_T25 l0 x9_2).f2).length : Int)
           ·as_aux_lemma =>
            rw [if_pos c49] at H
            have c49b0 := eq_true c49
            have c49b1 : decide (1 ≤ (((rd_T25 l0 x9_2).f2).length : Int)) = true := decide_eq_true c49
            clear c49
            obtain ⟨y684, hy684⟩ : ∃ y_ : List Int, y_ = (((rd_T25 l0 x9_2).f2).drop 1) := ⟨_, rfl⟩
            replace H : (if y681.length + y684.length < 17592186044416 then (if x8_2.length < 2513169434916 then (fullerlaw11_InferSame.l0 k2 l0 a1 a2 t643 (x8_2 ++ [(⟨(rd_T25 l0 x9_2).f0, (rd_T25 l0 x9_2).f1, (y681 ++ y684)⟩ : S25)]) (wrap64 (x9_2 + 1))) else (none)) else (none)) = some r := by first | (rw [hy684]; with_reducible exact H) | (have H2_ := (Option.bind_some _ _).symm.trans H; rw [hy684]; with_reducible exact H2_) | (have H2_ := (Option.bind_some _ _).symm.trans H; with_reducible exact H2_) | with_reducible exact H | (rw [hy684]; exact H) | exact H
            have Ny684 := Aside0.mk hy684
            clear hy684
            by_cases c50 : y681.length + y684.length < 17592186044416
            ·as_aux_lemma =>
             rw [if_pos c50] at H
             have LMc50 := Aside0.mk c50
             clear c50
             obtain ⟨y689, hy689⟩ : ∃ y_ : List Int, y_ = (y681 ++ y684) := ⟨_, rfl⟩
             replace H : (if x8_2.length < 2513169434916 then (fullerlaw11_InferSame.l0 k2 l0 a1 a2 t643 (x8_2 ++ [(⟨(rd_T25 l0 x9_2).f0, (rd_T25 l0 x9_2).f1, y689⟩ : S25)]) (wrap64 (x9_2 + 1))) else (none)) = some r := by first | (rw [hy689]; with_reducible exact H) | (have H2_ := (Option.bind_some _ _).symm.trans H; rw [hy689]; with_reducible exact H2_) | (have H2_ := (Option.bind_some _ _).symm.trans H; with_reducible exact H2_) | with_reducible exact H | (rw [hy689]; exact H) | exact H
             have Ny689 := Aside0.mk hy689
             clear hy689
             by_cases c51 : x8_2.length < 2513169434916
             ·as_aux_lemma =>
              rw [if_pos c51] at H
              have LMc51 := Aside0.mk c51
              clear c51
              obtain ⟨y692, hy692⟩ : ∃ y_ : List (S25), y_ = (x8_2 ++ [(⟨(rd_T25 l0 x9_2).f0, (rd_T25 l0 x9_2).f1, y689⟩ : S25)]) := ⟨_, rfl⟩
              replace H : (fullerlaw11_InferSame.l0 k2 l0 a1 a2 t643 y692 (wrap64 (x9_2 + 1))) = some r := by first | (rw [hy692]; with_reducible exact H) | (have H2_ := (Option.bind_some _ _).symm.trans H; rw [hy692]; with_reducible exact H2_) | (have H2_ := (Option.bind_some _ _).symm.trans H; with_reducible exact H2_) | with_reducible exact H | (rw [hy692]; exact H) | exact H
              have Ny692 := Aside0.mk hy692
              clear hy692
              have H' := Aside0.mk H
              clear H
              have p657 : 0 ≤ (x9_2 : Int) := od_
              have q657 : x9_2 < (l0.length : Int) := od_
              obtain ⟨ad657, A657_1, c657_1, A657_2, c657_2, e657, hx657_0, hx657_1, hx657_2, hl657_1, hi657_1, hl657_2, hi657_2⟩ := at_T25 (Kd.V_reads' HO_0.out).2.2 x9_2 p657 q657
              cases e657
              obtain ⟨ce657, hce657, hMe657, hcc657⟩ := Kd.V_get HO_0.out z25 x9_2 p657 (by first | exact q657 | exact od_ | (have e_ := (Kd.V_reads' HO_0.out).1; omega))
              obtain ⟨ua657_1, uc657_1, ua657_2, uc657_2, rfl, ul657_1, ge657_1, ul657_2, ge657_2⟩ := k25_openF hMe657
              have hv657_1 := hcc657 1 _ rfl
              rw [add_field _ _ 1 (by omega)] at hv657_1
              replace hv657_1 := Option.some.inj (hv657_1.symm.trans hx657_1)
              injection hv657_1 with hva_ hvn_ hvc_
              rw [hva_] at ge657_1
              rw [hvc_] at ul657_1
              have HL657_1 := Aside0.mk (show Kd.V (Kd.int .i64) 3 _ w.heap.size _ _ ((rd_T25 l0 x9_2).f1) from Kd.V_mk ul657_1 ge657_1)
              clear hva_ hvn_ hvc_ ge657_1 ul657_1
              have hv657_2 := hcc657 2 _ rfl
              rw [add_field _ _ 2 (by omega)] at hv657_2
              replace hv657_2 := Option.some.inj (hv657_2.symm.trans hx657_2)
              injection hv657_2 with hva_ hvn_ hvc_
              rw [hva_] at ge657_2
              rw [hvc_] at ul657_2
              have HL657_2 := Aside0.mk (show Kd.V (Kd.int .i64) 3 _ w.heap.size _ _ ((rd_T25 l0 x9_2).f2) from Kd.V_mk ul657_2 ge657_2)
              clear hva_ hvn_ hvc_ ge657_2 ul657_2 hcc657 hce657
              have HR657_1 := Aside0.mk hi657_1
              have HC657_1 := Aside0.mk hl657_1
              clear hi657_1 hl657_1
              have HR657_2 := Aside0.mk hi657_2
              have HC657_2 := Aside0.mk hl657_2
              clear hi657_2 hl657_2
              replace p657 := eq_true p657
              replace q657 := eq_true q657
              try go_wp2_with (first | ((with_reducible refine gate_dst (N := 10) rfl ?_); refine box_event ?hg (N := 10) ?hd (cs := #[.int .i64 0, .slice none 0 0, .slice none 0 0]) (t := 25) ?hr ?_; (case hd => rfl); (case hg => rfl); (case hr => first | (go_simp; done) | (go_simp; rfl)); intro gb658 hg w52 hbox hb; have BK658 := Aside0.mk (hbox); have GW658 := Aside0.mk ((by rw [hg]; exact (below_size (bq0_ HB.out)) : w.heap.size ≤ gb658)); have GE658 := Aside0.mk ((by rw [hg]; exact (below_size (bq0_ HB.out)) : w.heap.size ≤ gb658)); replace HO_0 := Aside0.mk (Kd.V_below (Kd.V_elderB (mvV_ HO_0.out) gb658 (Nat.le_of_eq hg.symm)) hb); replace HO_8 := Aside0.mk (Kd.N_below (Kd.N_elderB (mvN_ HO_8.out) gb658 (Nat.le_of_eq hg.symm)) hb); replace HL657_1 := Aside0.mk (Kd.V_below (Kd.V_elderB (mvV_ HL657_1.out) gb658 (Nat.le_of_eq hg.symm)) hb); replace HL657_2 := Aside0.mk (Kd.V_below (Kd.V_elderB (mvV_ HL657_2.out) gb658 (Nat.le_of_eq hg.symm)) hb); replace HR657_1 := Aside0.mk (Kd.C_below (by repeat (first | (with_reducible exact HR657_1.out) | (with_reducible refine Kd.C_alloc ?_ _) | (with_reducible refine Kd.C_drewN ?_ _) | (with_reducible refine Kd.C_drew ?_) | exact HR657_1.out)) hb); replace HR657_2 := Aside0.mk (Kd.C_below (by repeat (first | (with_reducible exact HR657_2.out) | (with_reducible refine Kd.C_alloc ?_ _) | (with_reducible refine Kd.C_drewN ?_ _) | (with_reducible refine Kd.C_drew ?_) | exact HR657_2.out)) hb); replace HB := Aside0.mk (below_step (bq0_ HB.out) hb); clear hb hbox hg; have hcz53_0 : w52.cell? ⟨gb658, 0, none⟩ = some (.int .i64 0) := (blk_cell BK658.out 0).trans rfl; have hcz53_1 : w52.cell? ⟨gb658, 1, none⟩ = some (.slice none 0 0) := (blk_cell BK658.out 1).trans rfl; have hcz53_2 : w52.cell? ⟨gb658, 2, none⟩ = some (.slice none 0 0) := (blk_cell BK658.out 2).trans rfl; have hfz53_0 := blk_frozen BK658.out 0; have hfz53_1 := blk_frozen BK658.out 1; have hfz53_2 := blk_frozen BK658.out 2))
              have n0_ : Aside0 (Kd.V k25 25 (((w52.setCell ⟨gb658, 0, none⟩ (.int .i64 ((rd_T25 l0 x9_2).f0))).setCell ⟨gb658, 1, none⟩ (.slice A657_1 ((rd_T25 l0 x9_2).f1).length c657_1)).setCell ⟨gb658, 2, none⟩ (.slice A657_2 ((rd_T25 l0 x9_2).f2).length c657_2)) w.heap.size (fun k_ => (P0_ k_ ∨ w.heap.size ≤ k_) ∧ some k_ ≠ (u8 : Value).ownBlock ∧ k_ ≠ gb658) (.slice (some ad657) l0.length c0) l0) := ⟨by (with_reducible repeat (first | apply Kd.V_alloc | apply Kd.V_drewN | apply Kd.V_drew)); exact Kd.V_mono (Kd.V_far (p := ⟨gb658, 2, none⟩) (Kd.V_far (p := ⟨gb658, 1, none⟩) (Kd.V_far (p := ⟨gb658, 0, none⟩) (Kd.V_mono HO_0.out (fun k_ hk => (⟨hk, hk.2⟩ : _ ∧ k_ ≠ gb658))) (fun _ hk => hk.2) (.int .i64 ((rd_T25 l0 x9_2).f0))) (fun _ hk => hk.2) (.slice A657_1 ((rd_T25 l0 x9_2).f1).length c657_1)) (fun _ hk => hk.2) (.slice A657_2 ((rd_T25 l0 x9_2).f2).length c657_2)) (fun _ hk => ⟨hk.1.1.1, ⟨hk.1.1.2, hk.1.2⟩⟩)⟩
              have n1_ : Aside0 (Kd.N k25 25 (((w52.setCell ⟨gb658, 0, none⟩ (.int .i64 ((rd_T25 l0 x9_2).f0))).setCell ⟨gb658, 1, none⟩ (.slice A657_1 ((rd_T25 l0 x9_2).f1).length c657_1)).setCell ⟨gb658, 2, none⟩ (.slice A657_2 ((rd_T25 l0 x9_2).f2).length c657_2)) w.heap.size (fun k_ => (P0_ k_ ∨ w.heap.size ≤ k_) ∧ k_ ≠ gb658) u8 x8_2) := ⟨by (with_reducible repeat (first | apply Kd.N_alloc | apply Kd.N_drewN | apply Kd.N_drew)); exact Kd.N_mono (Kd.N_far (p := ⟨gb658, 2, none⟩) (Kd.N_far (p := ⟨gb658, 1, none⟩) (Kd.N_far (p := ⟨gb658, 0, none⟩) (Kd.N_mono HO_8.out (fun k_ hk => (⟨hk, hk.2⟩ : _ ∧ k_ ≠ gb658))) (fun _ hk => hk.2) (.int .i64 ((rd_T25 l0 x9_2).f0))) (fun _ hk => hk.2) (.slice A657_1 ((rd_T25 l0 x9_2).f1).length c657_1)) (fun _ hk => hk.2) (.slice A657_2 ((rd_T25 l0 x9_2).f2).length c657_2)) (fun _ hk => ⟨hk.1.1, hk.1.2⟩)⟩
              have n2_ : Aside0 (Kd.V (Kd.int .i64) 3 (((w52.setCell ⟨gb658, 0, none⟩ (.int .i64 ((rd_T25 l0 x9_2).f0))).setCell ⟨gb658, 1, none⟩ (.slice A657_1 ((rd_T25 l0 x9_2).f1).length c657_1)).setCell ⟨gb658, 2, none⟩ (.slice A657_2 ((rd_T25 l0 x9_2).f2).length c657_2)) w.heap.size (fun k_ => (P0_ k_ ∨ w.heap.size ≤ k_) ∧ some k_ ≠ (u8 : Value).ownBlock ∧ k_ ≠ gb658) (.slice A657_1 ((rd_T25 l0 x9_2).f1).length c657_1) ((rd_T25 l0 x9_2).f1)) := ⟨by (with_reducible repeat (first | apply Kd.V_alloc | apply Kd.V_drewN | apply Kd.V_drew)); exact Kd.V_mono (Kd.V_far (p := ⟨gb658, 2, none⟩) (Kd.V_far (p := ⟨gb658, 1, none⟩) (Kd.V_far (p := ⟨gb658, 0, none⟩) (Kd.V_mono HL657_1.out (fun k_ hk => (⟨hk, hk.2⟩ : _ ∧ k_ ≠ gb658))) (fun _ hk => hk.2) (.int .i64 ((rd_T25 l0 x9_2).f0))) (fun _ hk => hk.2) (.slice A657_1 ((rd_T25 l0 x9_2).f1).length c657_1)) (fun _ hk => hk.2) (.slice A657_2 ((rd_T25 l0 x9_2).f2).length c657_2)) (fun _ hk => ⟨hk.1.1.1, ⟨hk.1.1.2, hk.1.2⟩⟩)⟩
              have n3_ : Aside0 (Kd.V (Kd.int .i64) 3 (((w52.setCell ⟨gb658, 0, none⟩ (.int .i64 ((rd_T25 l0 x9_2).f0))).setCell ⟨gb658, 1, none⟩ (.slice A657_1 ((rd_T25 l0 x9_2).f1).length c657_1)).setCell ⟨gb658, 2, none⟩ (.slice A657_2 ((rd_T25 l0 x9_2).f2).length c657_2)) w.heap.size (fun k_ => (P0_ k_ ∨ w.heap.size ≤ k_) ∧ some k_ ≠ (u8 : Value).ownBlock ∧ k_ ≠ gb658) (.slice A657_2 ((rd_T25 l0 x9_2).f2).length c657_2) ((rd_T25 l0 x9_2).f2)) := ⟨by (with_reducible repeat (first | apply Kd.V_alloc | apply Kd.V_drewN | apply Kd.V_drew)); exact Kd.V_mono (Kd.V_far (p := ⟨gb658, 2, none⟩) (Kd.V_far (p := ⟨gb658, 1, none⟩) (Kd.V_far (p := ⟨gb658, 0, none⟩) (Kd.V_mono HL657_2.out (fun k_ hk => (⟨hk, hk.2⟩ : _ ∧ k_ ≠ gb658))) (fun _ hk => hk.2) (.int .i64 ((rd_T25 l0 x9_2).f0))) (fun _ hk => hk.2) (.slice A657_1 ((rd_T25 l0 x9_2).f1).length c657_1)) (fun _ hk => hk.2) (.slice A657_2 ((rd_T25 l0 x9_2).f2).length c657_2)) (fun _ hk => ⟨hk.1.1.1, ⟨hk.1.1.2, hk.1.2⟩⟩)⟩
              have n4_ : Aside0 ((((w52.setCell ⟨gb658, 0, none⟩ (.int .i64 ((rd_T25 l0 x9_2).f0))).setCell ⟨gb658, 1, none⟩ (.slice A657_1 ((rd_T25 l0 x9_2).f1).length c657_1)).setCell ⟨gb658, 2, none⟩ (.slice A657_2 ((rd_T25 l0 x9_2).f2).length c657_2)).heap[gb658]? = some (.cells #[.int .i64 ((rd_T25 l0 x9_2).f0), .slice A657_1 ((rd_T25 l0 x9_2).f1).length c657_1, .slice A657_2 ((rd_T25 l0 x9_2).f2).length c657_2] 25 (0, 0))) := ⟨by (with_reducible repeat (first | refine blk_drewN ?_ _ | refine blk_drew ?_ | refine blk_alloc ?_ _)); refine blk_put (cs := #[.int .i64 ((rd_T25 l0 x9_2).f0), .slice A657_1 ((rd_T25 l0 x9_2).f1).length c657_1, .slice none 0 0]) ?_ 2 _ rfl; (with_reducible repeat (first | refine blk_drewN ?_ _ | refine blk_drew ?_ | refine blk_alloc ?_ _)); refine blk_put (cs := #[.int .i64 ((rd_T25 l0 x9_2).f0), .slice none 0 0, .slice none 0 0]) ?_ 1 _ rfl; (with_reducible repeat (first | refine blk_drewN ?_ _ | refine blk_drew ?_ | refine blk_alloc ?_ _)); refine blk_put (cs := #[.int .i64 0, .slice none 0 0, .slice none 0 0]) ?_ 0 _ rfl; (with_reducible repeat (first | refine blk_drewN ?_ _ | refine blk_drew ?_ | refine blk_alloc ?_ _)); exact BK658.out⟩
              have n5_ : Aside0 (Below w.heap.size w (((w52.setCell ⟨gb658, 0, none⟩ (.int .i64 ((rd_T25 l0 x9_2).f0))).setCell ⟨gb658, 1, none⟩ (.slice A657_1 ((rd_T25 l0 x9_2).f1).length c657_1)).setCell ⟨gb658, 2, none⟩ (.slice A657_2 ((rd_T25 l0 x9_2).f2).length c657_2))) := ⟨bq1_ HB.out GE658.out⟩
              (try clear HO_0)
              (try clear HO_8)
              (try clear HL657_1)
              (try clear HL657_2)
              (try clear BK658)
              (try clear HB)
              generalize (((w52.setCell ⟨gb658, 0, none⟩ (.int .i64 ((rd_T25 l0 x9_2).f0))).setCell ⟨gb658, 1, none⟩ (.slice A657_1 ((rd_T25 l0 x9_2).f1).length c657_1)).setCell ⟨gb658, 2, none⟩ (.slice A657_2 ((rd_T25 l0 x9_2).f2).length c657_2)) = w54 at n0_ n1_ n2_ n3_ n4_ n5_ ⊢
              have HO_0 := n0_
              have HO_8 := n1_
              have HL657_1 := n2_
              have HL657_2 := n3_
              have BK658 := n4_
              have HB := n5_
              clear n0_ n1_ n2_ n3_ n4_ n5_
              replace HO_0 := Aside0.mk (Kd.V_drew HO_0.out)
              replace HO_8 := Aside0.mk (Kd.N_drew HO_8.out)
              replace HL657_1 := Aside0.mk (Kd.V_drew HL657_1.out)
              replace HL657_2 := Aside0.mk (Kd.V_drew HL657_2.out)
              replace BK658 := Aside0.mk (blk_drew BK658.out)
              replace HB := Aside0.mk (below_drew1 HB.out)
              have p680 : 0 ≤ (0 : Int) := (by omega)
              have q680 : 0 < (((rd_T25 l0 x9_2).f2).length : Int) := od_
              obtain ⟨ad680, e680, hx680_0⟩ := Kd.at_int ((Kd.V_reads' (HL657_2.out)).2.2) 0 p680 q680
              cases e680
              have qi680 : (0 < ((rd_T25 l0 x9_2).f2).length) = True := eq_true (by omega)
              (try rw [show ((0 : Int)).toNat = 0 from rfl] at hx680_0)
              (try rw [Addr.add_zero'] at hx680_0)
              replace p680 := eq_true p680
              replace q680 := eq_true q680
              have q56 : (1 : Int) ≤ ((((rd_T25 l0 x9_2).f2).length : Int) : Int) := od_
              obtain ⟨i056, hi056, _, hsz56, _⟩ := info_parts info3
              have hroom56 : ((rd_T25 l0 x9_2).f2).length ≤ c657_2 := HC657_2.out
              have hC56 : Kd.F (Kd.int .i64) _ _ (some ad680) ((rd_T25 l0 x9_2).f2).length ((rd_T25 l0 x9_2).f2) := (Kd.V_at (base := w.heap.size) HL657_2.out).2.2
              have hcut56 := cut_from (P := Try.prog) 23 3 .i64 Try.underlying23 hi056 1 hsz56 (some ad680) ((rd_T25 l0 x9_2).f2).length c657_2 1 (by omega) q56
              have hr56 := Kd.F_cut (m := (1 : Int).toNat) (c := c657_2) hC56 (by omega) hroom56
              obtain ⟨A56, hA56⟩ : ∃ A1, A1 = (if c657_2 = (1 : Int).toNat then (some ad680) else ((some ad680) : Option Addr).map (·.add ((1 : Int).toNat * 1))) := ⟨_, rfl⟩
              obtain ⟨c56, hc56⟩ : ∃ c1, c1 = c657_2 - (1 : Int).toNat := ⟨_, rfl⟩
              have hy56 : y684.length = ((rd_T25 l0 x9_2).f2).length - (1 : Int).toNat := (by rw [Ny684.out, List.length_drop] <;> omega)
              rw [show ((rd_T25 l0 x9_2).f2).drop (1 : Int).toNat = y684 from Ny684.out.symm] at hr56
              replace hr56 : Kd.F (Kd.int .i64) _ _ A56 y684.length y684 := (by rw [hA56]; exact hr56)
              rw [← hy56, ← hA56, ← hc56] at hcut56
              have HO688 := Aside0.mk (show Kd.V (Kd.int .i64) 3 _ w.heap.size _ (.slice A56 y684.length c56) y684 from Kd.V_mk (by rw [hy56, hc56]; exact Nat.sub_le_sub_right hroom56 _) hr56)
              have HC688 := Aside0.mk (show y684.length ≤ c56 from by rw [hy56, hc56]; exact Nat.sub_le_sub_right hroom56 _)
              clear hr56 hC56 hroom56 hi056 hsz56 hc56
              have KY56 := Aside0.mk hy56
              have KA56 := Aside0.mk hA56
              clear hy56 hA56
              replace q56 := eq_true q56
              refine start_ (n := 15) (S := fun w' => w'.cell? ⟨gb658, 0, none⟩ = some (.int .i64 ((rd_T25 l0 x9_2).f0)) ∧ w'.cell? ⟨gb658, 1, none⟩ = some (.slice A657_1 ((rd_T25 l0 x9_2).f1).length c657_1) ∧ w'.cell? ⟨gb658, 2, none⟩ = some (.slice (some ad680) ((rd_T25 l0 x9_2).f2).length c657_2) ∧ w'.cell? ad680 = some (.int .i64 (rd ((rd_T25 l0 x9_2).f2) 0))) (ds := [12, 14]) L7_0 (by kernel_rfl) rfl rfl ⟨(blk_cell BK658.out 0).trans rfl, (blk_cell BK658.out 1).trans rfl, (blk_cell BK658.out 2).trans rfl, hx680_0⟩ (fun hHeld => ?_); refine with_tabW fullerlaw11_InferSame.tab12 fullerlaw11_InferSame.bits12 (fun HT_ HW_ => ?_)
              generalize w54.drew = w55 at HO_0 HO_8 HL657_1 HL657_2 BK658 HB HO688 hx680_0 hHeld ⊢
              refine pu_ 0 (some 46) L7_1 HT_ ?_
              refine pu_ 4 (some 50) L7_2 HT_ ?_
              refine pu_ 5 (some 51) L7_3 HT_ ?_
              refine pu_ 9 (some 55) L7_4 HT_ ?_
              refine ta_ 1 (some 47) L7_5 HT_ HW_ hHeld ?_ (hy := by rintro w' ⟨s0, s1, s2, s3⟩; go_simp; with_reducible rfl)
              refine pu_ 2 (some 48) L7_6 HT_ ?_
              refine ta_ 3 (some 49) L7_7 HT_ HW_ hHeld ?_ (hy := by rintro w' ⟨s0, s1, s2, s3⟩; go_simp; with_reducible rfl)
              refine pu_ 6 (some 52) L7_8 HT_ ?_
              refine pu_ 7 (some 53) L7_9 HT_ ?_
              refine ta_ 10 (some 56) L7_10 HT_ HW_ hHeld ?_ (hy := by rintro w' ⟨s0, s1, s2, s3⟩; go_simp; with_reducible rfl)
              refine pu_ 11 (some 57) L7_11 HT_ ?_
              refine one_ (i := 8) (N := some 54) L7_12 rfl rfl (one_of HT_.out (by kernel_rfl)) (by decide) (fun K hK => ?_)
              refine Kd.R_lit_step (Kd.int .i64) _ 3 ?hg (N := 54) ?hd (xs := ([Int.tmod (wrap64 ((rd ((rd_T25 l0 x9_2).f2) 0) + (wrap64 (a2)))) 8] : List Int)) (inner := [.int .i64 (Int.tmod (wrap64 ((rd ((rd_T25 l0 x9_2).f2) 0) + (wrap64 (a2)))) 8)]) (ok := fun _ => True) (okp := fun _ => True) ?hr ?hp (fun _ hk => hk) trivial (Below.refl _ _) (Nat.le_refl _) (by simp) ?_; (case hd => rfl); (case hg => rfl); (case hr => first | (go_simp; done) | (go_simp; rfl)); (case hp => exact (Reps.one (show Kd.M (Kd.int .i64) _ _ _ (Int.tmod (wrap64 ((rd ((rd_T25 l0 x9_2).f2) 0) + (wrap64 (a2)))) 8) [.int .i64 (Int.tmod (wrap64 ((rd ((rd_T25 l0 x9_2).f2) 0) + (wrap64 (a2)))) 8)] from rfl) (Reps.none _ _)))
              intro v682 w57 ho58 hb hg_ hnew_
              have HS3_ := (hb.cell (World.block_lt_of_cell? _ _ (hHeld.2.2.2))).trans (hHeld.2.2.2)
              clear hg_ hnew_
              (first | rw [← Ny681.out] at ho58 | (simp only [Int.reduceToNat] at ho58; rw [← Ny681.out] at ho58))
              have n0_ := Aside0.mk (Kd.V_elder' (mvV_ HO_0.out) (Kd.R_base ho58) hb)
              have n1_ := Aside0.mk (Kd.N_elder' (mvN_ HO_8.out) (Kd.R_base ho58) hb)
              have n2_ := Aside0.mk (Kd.V_elder' (mvV_ HL657_1.out) (Kd.R_base ho58) hb)
              have n3_ := Aside0.mk (Kd.V_elder' (mvV_ HL657_2.out) (Kd.R_base ho58) hb)
              have n4_ := Aside0.mk (Kd.V_elder' (mvV_ HO688.out) (Kd.R_base ho58) hb)
              have n5_ := Aside0.mk (Kd.R_lower (Kd.R_newM (M := fun k_ => (w.heap.size ≤ k_)) ho58 (below_size (bq1_ HB.out GE658.out)) (fun k_ h_ => h_)) (below_size (bq1_ HB.out GE658.out)))
              have n6_ := Aside0.mk (blk_below (g := gb658) (o := .cells #[.int .i64 ((rd_T25 l0 x9_2).f0), .slice A657_1 ((rd_T25 l0 x9_2).f1).length c657_1, .slice (some ad680) ((rd_T25 l0 x9_2).f2).length c657_2] 25 (0, 0)) (mvK_ BK658.out) hb)
              have n7_ := Aside0.mk (below_step (bq1_ HB.out GE658.out) hb)
              clear HO_0 HO_8 HL657_1 HL657_2 HO688 BK658 HB
              have HO_0 := n0_
              have HO_8 := n1_
              have HL657_1 := n2_
              have HL657_2 := n3_
              have HO688 := n4_
              have HO683 := n5_
              have BK658 := n6_
              have HB := n7_
              clear n0_ n1_ n2_ n3_ n4_ n5_ n6_ n7_ hb ho58
              refine hK.out _ _ ⟨(blk_cell BK658.out 0).trans rfl, (blk_cell BK658.out 1).trans rfl, (blk_cell BK658.out 2).trans rfl, HS3_⟩ (fun hHeld => ?_)
              clear hK K
              refine norm_ (a' := ?_) ?_ ?_
              rotate_left
              ·show Act.put _ (some 54) _ = _
               simp only [Act.put, sA_, sB_, sC_, i64_w, i32_w]
               rfl
              refine last_ (i := 12) (N := some 58) L7_13 rfl rfl (one_of HT_.out (by kernel_rfl)) (by decide) (fun K hK => ?_)
              refine Kd.R_append_rows_step (Kd.int .i64) (w0 := w) w.heap.size (by rfl) (.tmp 54) (.tmp 57) 23 3 (.int .i64 0) 8 rfl Try.underlying23 info3 rfl (by decide) (by omega) v682 y681 y684 _ _ _ (fun k_ => (w.heap.size ≤ k_)) (fun _ => False) rfl rfl ?aO ?aR (fun _ _ h => h) (fun _ h => h.elim) ?aF ?aB ?aS ?aL ?_
              (case aR => exact mvC_ ((Kd.V_reads' HO688.out).2.2))
              (case aB => exact (bq1_ HB.out GE658.out))
              (case aF => exact (fun k_ hk => (Nat.le_trans (below_size (bq1_ HB.out GE658.out)) hk)))
              (case aO => exact (by (with_reducible repeat (first | apply Kd.R_alloc | apply Kd.R_drewN | apply Kd.R_drew)); exact Kd.R_mono HO683.out (fun _ hk => hk.1)))
              (case aS => exact (below_size (bq1_ HB.out GE658.out)))
              (case aL => have := LMc50.out; omega)
              intro v690 w59 ho hb hg hat
              rw [← Ny689.out] at ho
              have n0_ := Aside0.mk (Kd.V_afterv (ok := (fun k_ => (P0_ k_ ∨ w.heap.size ≤ k_) ∧ some k_ ≠ (u8 : Value).ownBlock ∧ k_ ≠ gb658)) (mvV_ HO_0.out) hg hat)
              have n1_ := Aside0.mk (Kd.N_afterv (ok := (fun k_ => (P0_ k_ ∨ w.heap.size ≤ k_) ∧ k_ ≠ gb658)) (mvN_ HO_8.out) hg hat)
              have n2_ := Aside0.mk (Kd.V_afterv (ok := (fun k_ => (P0_ k_ ∨ w.heap.size ≤ k_) ∧ some k_ ≠ (u8 : Value).ownBlock ∧ k_ ≠ gb658)) (mvV_ HL657_1.out) hg hat)
              have n3_ := Aside0.mk (Kd.V_afterv (ok := (fun k_ => (P0_ k_ ∨ w.heap.size ≤ k_) ∧ some k_ ≠ (u8 : Value).ownBlock ∧ k_ ≠ gb658)) (mvV_ HL657_2.out) hg hat)
              have n4_ := Aside0.mk (blk_grown (g := gb658) (o := .cells #[.int .i64 ((rd_T25 l0 x9_2).f0), .slice A657_1 ((rd_T25 l0 x9_2).f1).length c657_1, .slice (some ad680) ((rd_T25 l0 x9_2).f2).length c657_2] 25 (0, 0)) (mvK_ BK658.out) hg (Kd.R_ne HO683.out BK658.out (by decide)))
              have n5_ := Aside0.mk (Kd.V_afterv (ok := (fun k_ => (P0_ k_ ∨ w.heap.size ≤ k_) ∧ some k_ ≠ (u8 : Value).ownBlock ∧ k_ ≠ gb658)) (mvV_ HO688.out) hg hat)
              have n6_ := Aside0.mk (hb)
              have n7_ := Aside0.mk (ho)
              clear HO_0 HO_8 HL657_1 HL657_2 BK658 HO688 HB HO683
              have HO_0 := n0_
              have HO_8 := n1_
              have HL657_1 := n2_
              have HL657_2 := n3_
              have BK658 := n4_
              have HO688 := n5_
              have HB := n6_
              have HO691 := n7_
              clear n0_ n1_ n2_ n3_ n4_ n5_ n6_ n7_ ho hb hg hat
              obtain ⟨Ao60, co60, eo60⟩ := Kd.R_slice HO691.out
              (first | subst eo60 | (injection eo60 with f1_ f2_ f3_; have f4_ := f1_.symm; have f5_ := f3_.symm; clear f1_ f2_ f3_; subst f4_; subst f5_))
              refine hK.out _ _ ?_
              clear hK K
              refine norm_ (a' := ?_) ?_ ?_
              rotate_left
              ·show Act.put _ (some 58) _ = _
               simp only [Act.put, sA_, sB_, sC_, i64_w, i32_w]
               rfl
              refine pu_ 13 (some 59) L7_14 HT_ ?_
              refine last_ (i := 14) (N := none) L7_15 rfl rfl (one_of HT_.out (by kernel_rfl)) (by decide) (fun K hK => ?_)
              have hs61 : w59.cell? ⟨gb658, 2, none⟩ = some (.slice (some ad680) ((rd_T25 l0 x9_2).f2).length c657_2) := (blk_cell BK658.out 2).trans rfl
              have hfs61 := blk_frozen BK658.out 2
              refine skip_ (w1 := ?_) (by rfl) rfl ?_ ?_
              rotate_left
              ·go_simp
               rfl
              refine hK.out _ _ ?_
              clear hK K
              refine done_ (done_of HT_.out (by kernel_rfl)) ?_
              have n0_ : Aside0 (Kd.V k25 25 (w59.setCell ⟨gb658, 2, none⟩ (.slice Ao60 y689.length co60)) w.heap.size (fun k_ => (P0_ k_ ∨ w.heap.size ≤ k_) ∧ some k_ ≠ (u8 : Value).ownBlock ∧ some k_ ≠ (.slice Ao60 y689.length co60 : Value).ownBlock ∧ k_ ≠ gb658) (.slice (some ad657) l0.length c0) l0) := ⟨by (with_reducible repeat (first | apply Kd.V_alloc | apply Kd.V_drewN | apply Kd.V_drew)); exact Kd.V_mono (Kd.V_far (p := ⟨gb658, 2, none⟩) (Kd.V_mono HO_0.out (fun k_ hk => (⟨hk, hk.1.2.2⟩ : _ ∧ k_ ≠ gb658))) (fun _ hk => hk.2) (.slice Ao60 y689.length co60)) (fun _ hk => ⟨hk.1.1.1, ⟨hk.1.1.2.1, ⟨hk.1.2, hk.1.1.2.2⟩⟩⟩)⟩
              have n1_ : Aside0 (Kd.N k25 25 (w59.setCell ⟨gb658, 2, none⟩ (.slice Ao60 y689.length co60)) w.heap.size (fun k_ => (P0_ k_ ∨ w.heap.size ≤ k_) ∧ some k_ ≠ (.slice Ao60 y689.length co60 : Value).ownBlock ∧ k_ ≠ gb658) u8 x8_2) := ⟨by (with_reducible repeat (first | apply Kd.N_alloc | apply Kd.N_drewN | apply Kd.N_drew)); exact Kd.N_mono (Kd.N_far (p := ⟨gb658, 2, none⟩) (Kd.N_mono HO_8.out (fun k_ hk => (⟨hk, hk.1.2⟩ : _ ∧ k_ ≠ gb658))) (fun _ hk => hk.2) (.slice Ao60 y689.length co60)) (fun _ hk => ⟨hk.1.1.1, ⟨hk.1.2, hk.1.1.2⟩⟩)⟩
              have n2_ : Aside0 (Kd.V (Kd.int .i64) 3 (w59.setCell ⟨gb658, 2, none⟩ (.slice Ao60 y689.length co60)) w.heap.size (fun k_ => (P0_ k_ ∨ w.heap.size ≤ k_) ∧ some k_ ≠ (u8 : Value).ownBlock ∧ some k_ ≠ (.slice Ao60 y689.length co60 : Value).ownBlock ∧ k_ ≠ gb658) (.slice A657_1 ((rd_T25 l0 x9_2).f1).length c657_1) ((rd_T25 l0 x9_2).f1)) := ⟨by (with_reducible repeat (first | apply Kd.V_alloc | apply Kd.V_drewN | apply Kd.V_drew)); exact Kd.V_mono (Kd.V_far (p := ⟨gb658, 2, none⟩) (Kd.V_mono HL657_1.out (fun k_ hk => (⟨hk, hk.1.2.2⟩ : _ ∧ k_ ≠ gb658))) (fun _ hk => hk.2) (.slice Ao60 y689.length co60)) (fun _ hk => ⟨hk.1.1.1, ⟨hk.1.1.2.1, ⟨hk.1.2, hk.1.1.2.2⟩⟩⟩)⟩
              have n3_ : Aside0 (Kd.V (Kd.int .i64) 3 (w59.setCell ⟨gb658, 2, none⟩ (.slice Ao60 y689.length co60)) w.heap.size (fun k_ => (P0_ k_ ∨ w.heap.size ≤ k_) ∧ some k_ ≠ (u8 : Value).ownBlock ∧ some k_ ≠ (.slice Ao60 y689.length co60 : Value).ownBlock ∧ k_ ≠ gb658) (.slice (some ad680) ((rd_T25 l0 x9_2).f2).length c657_2) ((rd_T25 l0 x9_2).f2)) := ⟨by (with_reducible repeat (first | apply Kd.V_alloc | apply Kd.V_drewN | apply Kd.V_drew)); exact Kd.V_mono (Kd.V_far (p := ⟨gb658, 2, none⟩) (Kd.V_mono HL657_2.out (fun k_ hk => (⟨hk, hk.1.2.2⟩ : _ ∧ k_ ≠ gb658))) (fun _ hk => hk.2) (.slice Ao60 y689.length co60)) (fun _ hk => ⟨hk.1.1.1, ⟨hk.1.1.2.1, ⟨hk.1.2, hk.1.1.2.2⟩⟩⟩)⟩
              have n4_ : Aside0 (Kd.V (Kd.int .i64) 3 (w59.setCell ⟨gb658, 2, none⟩ (.slice Ao60 y689.length co60)) w.heap.size (fun k_ => (P0_ k_ ∨ w.heap.size ≤ k_) ∧ some k_ ≠ (u8 : Value).ownBlock ∧ some k_ ≠ (.slice Ao60 y689.length co60 : Value).ownBlock ∧ k_ ≠ gb658) (.slice A56 y684.length c56) y684) := ⟨by (with_reducible repeat (first | apply Kd.V_alloc | apply Kd.V_drewN | apply Kd.V_drew)); exact Kd.V_mono (Kd.V_far (p := ⟨gb658, 2, none⟩) (Kd.V_mono HO688.out (fun k_ hk => (⟨hk, hk.1.2.2⟩ : _ ∧ k_ ≠ gb658))) (fun _ hk => hk.2) (.slice Ao60 y689.length co60)) (fun _ hk => ⟨hk.1.1.1, ⟨hk.1.1.2.1, ⟨hk.1.2, hk.1.1.2.2⟩⟩⟩)⟩
              have n5_ : Aside0 (Kd.R (Kd.int .i64) 3 (w59.setCell ⟨gb658, 2, none⟩ (.slice Ao60 y689.length co60)) w.heap.size (fun k_ => (w.heap.size ≤ k_)) (.slice Ao60 y689.length co60) y689) := ⟨by (with_reducible repeat (first | apply Kd.R_alloc | apply Kd.R_drewN | apply Kd.R_drew)); exact Kd.R_mono (Kd.R_far (p := ⟨gb658, 2, none⟩) (Kd.R_types HO691.out BK658.out (by decide)) (fun _ hk => hk.2) (.slice Ao60 y689.length co60)) (fun _ hk => hk.1)⟩
              have n6_ : Aside0 ((w59.setCell ⟨gb658, 2, none⟩ (.slice Ao60 y689.length co60)).heap[gb658]? = some (.cells #[.int .i64 ((rd_T25 l0 x9_2).f0), .slice A657_1 ((rd_T25 l0 x9_2).f1).length c657_1, .slice Ao60 y689.length co60] 25 (0, 0))) := ⟨by (with_reducible repeat (first | refine blk_drewN ?_ _ | refine blk_drew ?_ | refine blk_alloc ?_ _)); refine blk_put (cs := #[.int .i64 ((rd_T25 l0 x9_2).f0), .slice A657_1 ((rd_T25 l0 x9_2).f1).length c657_1, .slice (some ad680) ((rd_T25 l0 x9_2).f2).length c657_2]) ?_ 2 _ rfl; (with_reducible repeat (first | refine blk_drewN ?_ _ | refine blk_drew ?_ | refine blk_alloc ?_ _)); exact BK658.out⟩
              have n7_ : Aside0 (Below w.heap.size w (w59.setCell ⟨gb658, 2, none⟩ (.slice Ao60 y689.length co60))) := ⟨bq1_ HB.out GE658.out⟩
              (try clear HO_0)
              (try clear HO_8)
              (try clear HL657_1)
              (try clear HL657_2)
              (try clear HO688)
              (try clear HO691)
              (try clear BK658)
              (try clear HB)
              generalize (w59.setCell ⟨gb658, 2, none⟩ (.slice Ao60 y689.length co60)) = w62 at n0_ n1_ n2_ n3_ n4_ n5_ n6_ n7_ ⊢
              have HO_0 := n0_
              have HO_8 := n1_
              have HL657_1 := n2_
              have HL657_2 := n3_
              have HO688 := n4_
              have HO691 := n5_
              have BK658 := n6_
              have HB := n7_
              clear n0_ n1_ n2_ n3_ n4_ n5_ n6_ n7_
              have hcz63_0 : w62.cell? ⟨gb658, 0, none⟩ = some (.int .i64 ((rd_T25 l0 x9_2).f0)) := (blk_cell BK658.out 0).trans rfl
              have hcz63_1 : w62.cell? ⟨gb658, 1, none⟩ = some (.slice A657_1 ((rd_T25 l0 x9_2).f1).length c657_1) := (blk_cell BK658.out 1).trans rfl
              have hcz63_2 : w62.cell? ⟨gb658, 2, none⟩ = some (.slice Ao60 y689.length co60) := (blk_cell BK658.out 2).trans rfl
              have hfz63_0 := blk_frozen BK658.out 0
              have hfz63_1 := blk_frozen BK658.out 1
              have hfz63_2 := blk_frozen BK658.out 2
              try go_wp2_with (first | ((with_reducible refine gate_builtin (b := .append) (xs := #[.tmp 60, .tmp 62]) rfl ?_); at_builtin; refine Kd.N_append k25 (w0 := w) w.heap.size rfl (.tmp 60) (.tmp 62) 22 25 (.agg #[(.int .i64 0), (.slice none 0 0), (.slice none 0 0)]) 56 rfl Try.underlying22 info25 rfl (by decide) (by omega) u8 x8_2 (⟨(rd_T25 l0 x9_2).f0, (rd_T25 l0 x9_2).f1, y689⟩ : S25) [.int .i64 ((rd_T25 l0 x9_2).f0), .slice A657_1 ((rd_T25 l0 x9_2).f1).length c657_1, .slice Ao60 y689.length co60] (fun k_ => (P0_ k_ ∨ w.heap.size ≤ k_) ∧ k_ ≠ gb658) (fun k_ => ((fun k_ => (P0_ k_ ∨ w.heap.size ≤ k_) ∧ k_ ≠ gb658)) k_ ∧ some k_ ≠ (u8 : Value).ownBlock) rfl rfl ?aP (fun _ hk => hk) ?aF ?aO ?aB ?aS ?aL ?_; (case aP => exact (k25_mkF _ _ (⟨(rd_T25 l0 x9_2).f0, (rd_T25 l0 x9_2).f1, y689⟩ : S25) (Kd.V_reads' (Kd.V_mono (ok' := (fun k_ => ((fun k_ => (P0_ k_ ∨ w.heap.size ≤ k_) ∧ k_ ≠ gb658)) k_ ∧ some k_ ≠ (u8 : Value).ownBlock)) (HL657_1.out) (fun k_ hk => ⟨⟨hk.1, hk.2.2.2⟩, hk.2.1⟩))).2.1 (Kd.V_F (Kd.V_mono (ok' := (fun k_ => ((fun k_ => (P0_ k_ ∨ w.heap.size ≤ k_) ∧ k_ ≠ gb658)) k_ ∧ some k_ ≠ (u8 : Value).ownBlock)) (HL657_1.out) (fun k_ hk => ⟨⟨hk.1, hk.2.2.2⟩, hk.2.1⟩))) (Kd.R_reads' (Kd.R_mono (ok' := (fun k_ => ((fun k_ => (P0_ k_ ∨ w.heap.size ≤ k_) ∧ k_ ≠ gb658)) k_ ∧ some k_ ≠ (u8 : Value).ownBlock)) (Kd.R_types (Kd.R_apart' (HO691.out) (Kd.N_typed HO_8.out) (by decide)) BK658.out (by decide)) (fun k_ hk => ⟨⟨(.inr (hk.1.1)), hk.2⟩, hk.1.2⟩))).2.1 (Kd.R_F (Kd.R_mono (ok' := (fun k_ => ((fun k_ => (P0_ k_ ∨ w.heap.size ≤ k_) ∧ k_ ≠ gb658)) k_ ∧ some k_ ≠ (u8 : Value).ownBlock)) (Kd.R_types (Kd.R_apart' (HO691.out) (Kd.N_typed HO_8.out) (by decide)) BK658.out (by decide)) (fun k_ hk => ⟨⟨(.inr (hk.1.1)), hk.2⟩, hk.1.2⟩))))); (case aB => exact (bq1_ HB.out GE658.out)); (case aF => exact (fun k_ hk => ⟨(.inr (Nat.le_trans (below_size (bq1_ HB.out GE658.out)) hk)), Kd.freshB (g := gb658) (o := .cells #[.int .i64 ((rd_T25 l0 x9_2).f0), .slice A657_1 ((rd_T25 l0 x9_2).f1).length c657_1, .slice Ao60 y689.length co60] 25 (0, 0)) (mvK_ BK658.out) k_ hk⟩)); (case aO => exact (by (with_reducible repeat (first | apply Kd.N_alloc | apply Kd.N_drewN | apply Kd.N_drew)); exact Kd.N_mono HO_8.out (fun _ hk => ⟨hk.1, hk.2.2⟩))); (case aS => exact (below_size (bq1_ HB.out GE658.out))); (case aL => have := LMc51.out; omega); intro v693 w64 ho hb hg hat; rw [← Ny692.out] at ho; have HO694 := Aside0.mk (ho); replace HO_0 := Aside0.mk (Kd.V_afterv (ok := (fun k_ => (P0_ k_ ∨ w.heap.size ≤ k_) ∧ some k_ ≠ (.slice Ao60 y689.length co60 : Value).ownBlock ∧ k_ ≠ gb658)) (by (with_reducible repeat (first | apply Kd.V_alloc | apply Kd.V_drewN | apply Kd.V_drew)); exact Kd.V_mono HO_0.out (fun _ hk => ⟨⟨hk.1, ⟨hk.2.2.1, hk.2.2.2⟩⟩, hk.2.1⟩)) hg hat); replace HL657_1 := Aside0.mk (Kd.V_afterv (ok := (fun k_ => (P0_ k_ ∨ w.heap.size ≤ k_) ∧ some k_ ≠ (.slice Ao60 y689.length co60 : Value).ownBlock ∧ k_ ≠ gb658)) (by (with_reducible repeat (first | apply Kd.V_alloc | apply Kd.V_drewN | apply Kd.V_drew)); exact Kd.V_mono HL657_1.out (fun _ hk => ⟨⟨hk.1, ⟨hk.2.2.1, hk.2.2.2⟩⟩, hk.2.1⟩)) hg hat); replace HL657_2 := Aside0.mk (Kd.V_afterv (ok := (fun k_ => (P0_ k_ ∨ w.heap.size ≤ k_) ∧ some k_ ≠ (.slice Ao60 y689.length co60 : Value).ownBlock ∧ k_ ≠ gb658)) (by (with_reducible repeat (first | apply Kd.V_alloc | apply Kd.V_drewN | apply Kd.V_drew)); exact Kd.V_mono HL657_2.out (fun _ hk => ⟨⟨hk.1, ⟨hk.2.2.1, hk.2.2.2⟩⟩, hk.2.1⟩)) hg hat); replace BK658 := Aside0.mk (blk_grown (g := gb658) (o := .cells #[.int .i64 ((rd_T25 l0 x9_2).f0), .slice A657_1 ((rd_T25 l0 x9_2).f1).length c657_1, .slice Ao60 y689.length co60] 25 (0, 0)) (mvK_ BK658.out) hg (Kd.N_away HO_8.out (fun _ hk => hk.2.2))); replace HO688 := Aside0.mk (Kd.V_afterv (ok := (fun k_ => (P0_ k_ ∨ w.heap.size ≤ k_) ∧ some k_ ≠ (.slice Ao60 y689.length co60 : Value).ownBlock ∧ k_ ≠ gb658)) (by (with_reducible repeat (first | apply Kd.V_alloc | apply Kd.V_drewN | apply Kd.V_drew)); exact Kd.V_mono HO688.out (fun _ hk => ⟨⟨hk.1, ⟨hk.2.2.1, hk.2.2.2⟩⟩, hk.2.1⟩)) hg hat); replace HB := Aside0.mk (hb); clear HO_8 HO691 ho hb hg hat))
              go_roundg k2
              case measure => have := HJ4.out; have := HK2.out; omega
              case rel => exact ⟨(y692), (wrap64 (x9_2 + 1)), (by first | rfl | (simp; done) | (simp [*]; done)), H', ⟨by have := HJ4.out; have := HK2.out; omega⟩, ⟨by (with_reducible repeat (first | apply Kd.V_alloc | apply Kd.V_drewN | apply Kd.V_drew)); exact Kd.V_mono HO_0.out (fun _ hk => ⟨hk.1.1, hk.2⟩)⟩, ⟨by (with_reducible repeat (first | apply Kd.N_alloc | apply Kd.N_drewN | apply Kd.N_drew)); exact Kd.N_mono HO694.out (fun _ hk => hk.1)⟩, ⟨bq1_ HB.out GE658.out⟩⟩
             ·rw [if_neg c51] at H
              exact absurd H (by simp)
            ·rw [if_neg c50] at H
             exact absurd H (by simp)
           ·rw [if_neg c49] at H
            exact absurd H (by simp)
          ·rw [if_neg c48] at H
           exact absurd H (by simp)
         ·as_aux_lemma =>
          rw [if_neg c47] at H
          have c47b0 : (((rd_T25 l0 x9_2).f0) == 2) = false := beq_eq_false_iff_ne.mpr c47
          have c47b1 : (((rd_T25 l0 x9_2).f0) != 2) = true := bne_iff_ne.mpr c47
          by_cases c65 : x8_2.length < 2513169434916
          ·as_aux_lemma =>
           rw [if_pos c65] at H
           have LMc65 := Aside0.mk c65
           clear c65
           obtain ⟨y695, hy695⟩ : ∃ y_ : List (S25), y_ = (x8_2 ++ [(⟨(rd_T25 l0 x9_2).f0, (rd_T25 l0 x9_2).f1, (rd_T25 l0 x9_2).f2⟩ : S25)]) := ⟨_, rfl⟩
           replace H : (fullerlaw11_InferSame.l0 k2 l0 a1 a2 t643 y695 (wrap64 (x9_2 + 1))) = some r := by first | (rw [hy695]; with_reducible exact H) | (have H2_ := (Option.bind_some _ _).symm.trans H; rw [hy695]; with_reducible exact H2_) | (have H2_ := (Option.bind_some _ _).symm.trans H; with_reducible exact H2_) | with_reducible exact H | (rw [hy695]; exact H) | exact H
           have Ny695 := Aside0.mk hy695
           clear hy695
           have H' := Aside0.mk H
           clear H
           have p657 : 0 ≤ (x9_2 : Int) := od_
           have q657 : x9_2 < (l0.length : Int) := od_
           obtain ⟨ad657, A657_1, c657_1, A657_2, c657_2, e657, hx657_0, hx657_1, hx657_2, hl657_1, hi657_1, hl657_2, hi657_2⟩ := at_T25 (Kd.V_reads' HO_0.out).2.2 x9_2 p657 q657
           cases e657
           obtain ⟨ce657, hce657, hMe657, hcc657⟩ := Kd.V_get HO_0.out z25 x9_2 p657 (by first | exact q657 | exact od_ | (have e_ := (Kd.V_reads' HO_0.out).1; omega))
           obtain ⟨ua657_1, uc657_1, ua657_2, uc657_2, rfl, ul657_1, ge657_1, ul657_2, ge657_2⟩ := k25_openF hMe657
           have hv657_1 := hcc657 1 _ rfl
           rw [add_field _ _ 1 (by omega)] at hv657_1
           replace hv657_1 := Option.some.inj (hv657_1.symm.trans hx657_1)
           injection hv657_1 with hva_ hvn_ hvc_
           rw [hva_] at ge657_1
           rw [hvc_] at ul657_1
           have HL657_1 := Aside0.mk (show Kd.V (Kd.int .i64) 3 _ w.heap.size _ _ ((rd_T25 l0 x9_2).f1) from Kd.V_mk ul657_1 ge657_1)
           clear hva_ hvn_ hvc_ ge657_1 ul657_1
           have hv657_2 := hcc657 2 _ rfl
           rw [add_field _ _ 2 (by omega)] at hv657_2
           replace hv657_2 := Option.some.inj (hv657_2.symm.trans hx657_2)
           injection hv657_2 with hva_ hvn_ hvc_
           rw [hva_] at ge657_2
           rw [hvc_] at ul657_2
           have HL657_2 := Aside0.mk (show Kd.V (Kd.int .i64) 3 _ w.heap.size _ _ ((rd_T25 l0 x9_2).f2) from Kd.V_mk ul657_2 ge657_2)
           clear hva_ hvn_ hvc_ ge657_2 ul657_2 hcc657 hce657
           have HR657_1 := Aside0.mk hi657_1
           have HC657_1 := Aside0.mk hl657_1
           clear hi657_1 hl657_1
           have HR657_2 := Aside0.mk hi657_2
           have HC657_2 := Aside0.mk hl657_2
           clear hi657_2 hl657_2
           replace p657 := eq_true p657
           replace q657 := eq_true q657
           go_wp2_with (first | ((with_reducible refine gate_dst (N := 10) rfl ?_); refine box_event ?hg (N := 10) ?hd (cs := #[.int .i64 0, .slice none 0 0, .slice none 0 0]) (t := 25) ?hr ?_; (case hd => rfl); (case hg => rfl); (case hr => first | (go_simp; done) | (go_simp; rfl)); intro gb658 hg w66 hbox hb; have BK658 := Aside0.mk (hbox); have GW658 := Aside0.mk ((by rw [hg]; exact (below_size (bq0_ HB.out)) : w.heap.size ≤ gb658)); have GE658 := Aside0.mk ((by rw [hg]; exact (below_size (bq0_ HB.out)) : w.heap.size ≤ gb658)); replace HO_0 := Aside0.mk (Kd.V_below (Kd.V_elderB (mvV_ HO_0.out) gb658 (Nat.le_of_eq hg.symm)) hb); replace HO_8 := Aside0.mk (Kd.N_below (Kd.N_elderB (mvN_ HO_8.out) gb658 (Nat.le_of_eq hg.symm)) hb); replace HL657_1 := Aside0.mk (Kd.V_below (Kd.V_elderB (mvV_ HL657_1.out) gb658 (Nat.le_of_eq hg.symm)) hb); replace HL657_2 := Aside0.mk (Kd.V_below (Kd.V_elderB (mvV_ HL657_2.out) gb658 (Nat.le_of_eq hg.symm)) hb); replace HR657_1 := Aside0.mk (Kd.C_below (by repeat (first | (with_reducible exact HR657_1.out) | (with_reducible refine Kd.C_alloc ?_ _) | (with_reducible refine Kd.C_drewN ?_ _) | (with_reducible refine Kd.C_drew ?_) | exact HR657_1.out)) hb); replace HR657_2 := Aside0.mk (Kd.C_below (by repeat (first | (with_reducible exact HR657_2.out) | (with_reducible refine Kd.C_alloc ?_ _) | (with_reducible refine Kd.C_drewN ?_ _) | (with_reducible refine Kd.C_drew ?_) | exact HR657_2.out)) hb); replace HB := Aside0.mk (below_step (bq0_ HB.out) hb); clear hb hbox hg; have hcz67_0 : w66.cell? ⟨gb658, 0, none⟩ = some (.int .i64 0) := (blk_cell BK658.out 0).trans rfl; have hcz67_1 : w66.cell? ⟨gb658, 1, none⟩ = some (.slice none 0 0) := (blk_cell BK658.out 1).trans rfl; have hcz67_2 : w66.cell? ⟨gb658, 2, none⟩ = some (.slice none 0 0) := (blk_cell BK658.out 2).trans rfl; have hfz67_0 := blk_frozen BK658.out 0; have hfz67_1 := blk_frozen BK658.out 1; have hfz67_2 := blk_frozen BK658.out 2) | ((with_reducible refine gate_store (t := 25) (p := 10) rfl ?_); refine store_event (t := 25) (p := 10) (v := ?vo_w68) (w1 := (((w66.setCell ⟨gb658, 0, none⟩ (.int .i64 ((rd_T25 l0 x9_2).f0))).setCell ⟨gb658, 1, none⟩ (.slice A657_1 ((rd_T25 l0 x9_2).f1).length c657_1)).setCell ⟨gb658, 2, none⟩ (.slice A657_2 ((rd_T25 l0 x9_2).f2).length c657_2))) ?hg ?ho ?hn ?hr ?_; (case ho => rfl); (case hg => rfl); (case hn => rfl); (case hr => first | (go_simp; done) | (go_simp; rfl)); intro w68 hw; have n0_ : Aside0 (Kd.V k25 25 w68 w.heap.size (fun k_ => (P0_ k_ ∨ w.heap.size ≤ k_) ∧ some k_ ≠ (u8 : Value).ownBlock ∧ k_ ≠ gb658) (.slice (some ad657) l0.length c0) l0) := ⟨(by rw [hw]; exact (by (with_reducible repeat (first | apply Kd.V_alloc | apply Kd.V_drewN | apply Kd.V_drew)); exact Kd.V_mono (Kd.V_far (p := ⟨gb658, 2, none⟩) (Kd.V_far (p := ⟨gb658, 1, none⟩) (Kd.V_far (p := ⟨gb658, 0, none⟩) (Kd.V_mono HO_0.out (fun k_ hk => (⟨hk, hk.2⟩ : _ ∧ k_ ≠ gb658))) (fun _ hk => hk.2) (.int .i64 ((rd_T25 l0 x9_2).f0))) (fun _ hk => hk.2) (.slice A657_1 ((rd_T25 l0 x9_2).f1).length c657_1)) (fun _ hk => hk.2) (.slice A657_2 ((rd_T25 l0 x9_2).f2).length c657_2)) (fun _ hk => ⟨hk.1.1.1, ⟨hk.1.1.2, hk.1.2⟩⟩)))⟩; have n1_ : Aside0 (Kd.N k25 25 w68 w.heap.size (fun k_ => (P0_ k_ ∨ w.heap.size ≤ k_) ∧ k_ ≠ gb658) u8 x8_2) := ⟨(by rw [hw]; exact (by (with_reducible repeat (first | apply Kd.N_alloc | apply Kd.N_drewN | apply Kd.N_drew)); exact Kd.N_mono (Kd.N_far (p := ⟨gb658, 2, none⟩) (Kd.N_far (p := ⟨gb658, 1, none⟩) (Kd.N_far (p := ⟨gb658, 0, none⟩) (Kd.N_mono HO_8.out (fun k_ hk => (⟨hk, hk.2⟩ : _ ∧ k_ ≠ gb658))) (fun _ hk => hk.2) (.int .i64 ((rd_T25 l0 x9_2).f0))) (fun _ hk => hk.2) (.slice A657_1 ((rd_T25 l0 x9_2).f1).length c657_1)) (fun _ hk => hk.2) (.slice A657_2 ((rd_T25 l0 x9_2).f2).length c657_2)) (fun _ hk => ⟨hk.1.1, hk.1.2⟩)))⟩; have n2_ : Aside0 (Kd.V (Kd.int .i64) 3 w68 w.heap.size (fun k_ => (P0_ k_ ∨ w.heap.size ≤ k_) ∧ some k_ ≠ (u8 : Value).ownBlock ∧ k_ ≠ gb658) (.slice A657_1 ((rd_T25 l0 x9_2).f1).length c657_1) ((rd_T25 l0 x9_2).f1)) := ⟨(by rw [hw]; exact (by (with_reducible repeat (first | apply Kd.V_alloc | apply Kd.V_drewN | apply Kd.V_drew)); exact Kd.V_mono (Kd.V_far (p := ⟨gb658, 2, none⟩) (Kd.V_far (p := ⟨gb658, 1, none⟩) (Kd.V_far (p := ⟨gb658, 0, none⟩) (Kd.V_mono HL657_1.out (fun k_ hk => (⟨hk, hk.2⟩ : _ ∧ k_ ≠ gb658))) (fun _ hk => hk.2) (.int .i64 ((rd_T25 l0 x9_2).f0))) (fun _ hk => hk.2) (.slice A657_1 ((rd_T25 l0 x9_2).f1).length c657_1)) (fun _ hk => hk.2) (.slice A657_2 ((rd_T25 l0 x9_2).f2).length c657_2)) (fun _ hk => ⟨hk.1.1.1, ⟨hk.1.1.2, hk.1.2⟩⟩)))⟩; have n3_ : Aside0 (Kd.V (Kd.int .i64) 3 w68 w.heap.size (fun k_ => (P0_ k_ ∨ w.heap.size ≤ k_) ∧ some k_ ≠ (u8 : Value).ownBlock ∧ k_ ≠ gb658) (.slice A657_2 ((rd_T25 l0 x9_2).f2).length c657_2) ((rd_T25 l0 x9_2).f2)) := ⟨(by rw [hw]; exact (by (with_reducible repeat (first | apply Kd.V_alloc | apply Kd.V_drewN | apply Kd.V_drew)); exact Kd.V_mono (Kd.V_far (p := ⟨gb658, 2, none⟩) (Kd.V_far (p := ⟨gb658, 1, none⟩) (Kd.V_far (p := ⟨gb658, 0, none⟩) (Kd.V_mono HL657_2.out (fun k_ hk => (⟨hk, hk.2⟩ : _ ∧ k_ ≠ gb658))) (fun _ hk => hk.2) (.int .i64 ((rd_T25 l0 x9_2).f0))) (fun _ hk => hk.2) (.slice A657_1 ((rd_T25 l0 x9_2).f1).length c657_1)) (fun _ hk => hk.2) (.slice A657_2 ((rd_T25 l0 x9_2).f2).length c657_2)) (fun _ hk => ⟨hk.1.1.1, ⟨hk.1.1.2, hk.1.2⟩⟩)))⟩; have n4_ : Aside0 (w68.heap[gb658]? = some (.cells #[.int .i64 ((rd_T25 l0 x9_2).f0), .slice A657_1 ((rd_T25 l0 x9_2).f1).length c657_1, .slice A657_2 ((rd_T25 l0 x9_2).f2).length c657_2] 25 (0, 0))) := ⟨(by rw [hw]; exact (by (with_reducible repeat (first | refine blk_drewN ?_ _ | refine blk_drew ?_ | refine blk_alloc ?_ _)); refine blk_put (cs := #[.int .i64 ((rd_T25 l0 x9_2).f0), .slice A657_1 ((rd_T25 l0 x9_2).f1).length c657_1, .slice none 0 0]) ?_ 2 _ rfl; (with_reducible repeat (first | refine blk_drewN ?_ _ | refine blk_drew ?_ | refine blk_alloc ?_ _)); refine blk_put (cs := #[.int .i64 ((rd_T25 l0 x9_2).f0), .slice none 0 0, .slice none 0 0]) ?_ 1 _ rfl; (with_reducible repeat (first | refine blk_drewN ?_ _ | refine blk_drew ?_ | refine blk_alloc ?_ _)); refine blk_put (cs := #[.int .i64 0, .slice none 0 0, .slice none 0 0]) ?_ 0 _ rfl; (with_reducible repeat (first | refine blk_drewN ?_ _ | refine blk_drew ?_ | refine blk_alloc ?_ _)); exact BK658.out))⟩; have n5_ : Aside0 (Below w.heap.size w w68) := ⟨(by rw [hw]; exact (bq1_ HB.out GE658.out))⟩; clear hw; clear HO_0; clear HO_8; clear HL657_1; clear HL657_2; clear BK658; clear HB; have HO_0 := n0_; have HO_8 := n1_; have HL657_1 := n2_; have HL657_2 := n3_; have BK658 := n4_; have HB := n5_; clear n0_ n1_ n2_ n3_ n4_ n5_; have hcz69_0 : w68.cell? ⟨gb658, 0, none⟩ = some (.int .i64 ((rd_T25 l0 x9_2).f0)) := (blk_cell BK658.out 0).trans rfl; have hcz69_1 : w68.cell? ⟨gb658, 1, none⟩ = some (.slice A657_1 ((rd_T25 l0 x9_2).f1).length c657_1) := (blk_cell BK658.out 1).trans rfl; have hcz69_2 : w68.cell? ⟨gb658, 2, none⟩ = some (.slice A657_2 ((rd_T25 l0 x9_2).f2).length c657_2) := (blk_cell BK658.out 2).trans rfl; have hfz69_0 := blk_frozen BK658.out 0; have hfz69_1 := blk_frozen BK658.out 1; have hfz69_2 := blk_frozen BK658.out 2) | ((with_reducible refine gate_builtin (b := .append) (xs := #[.tmp 60, .tmp 62]) rfl ?_); at_builtin; refine Kd.N_append k25 (w0 := w) w.heap.size rfl (.tmp 60) (.tmp 62) 22 25 (.agg #[(.int .i64 0), (.slice none 0 0), (.slice none 0 0)]) 56 rfl Try.underlying22 info25 rfl (by decide) (by omega) u8 x8_2 (⟨(rd_T25 l0 x9_2).f0, (rd_T25 l0 x9_2).f1, (rd_T25 l0 x9_2).f2⟩ : S25) [.int .i64 ((rd_T25 l0 x9_2).f0), .slice A657_1 ((rd_T25 l0 x9_2).f1).length c657_1, .slice A657_2 ((rd_T25 l0 x9_2).f2).length c657_2] (fun k_ => (P0_ k_ ∨ w.heap.size ≤ k_) ∧ k_ ≠ gb658) (fun k_ => ((fun k_ => (P0_ k_ ∨ w.heap.size ≤ k_) ∧ k_ ≠ gb658)) k_ ∧ some k_ ≠ (u8 : Value).ownBlock) rfl rfl ?aP (fun _ hk => hk) ?aF ?aO ?aB ?aS ?aL ?_; (case aP => exact (k25_mkF _ _ (⟨(rd_T25 l0 x9_2).f0, (rd_T25 l0 x9_2).f1, (rd_T25 l0 x9_2).f2⟩ : S25) (Kd.V_reads' (Kd.V_mono (ok' := (fun k_ => ((fun k_ => (P0_ k_ ∨ w.heap.size ≤ k_) ∧ k_ ≠ gb658)) k_ ∧ some k_ ≠ (u8 : Value).ownBlock)) (HL657_1.out) (fun k_ hk => ⟨⟨hk.1, hk.2.2⟩, hk.2.1⟩))).2.1 (Kd.V_F (Kd.V_mono (ok' := (fun k_ => ((fun k_ => (P0_ k_ ∨ w.heap.size ≤ k_) ∧ k_ ≠ gb658)) k_ ∧ some k_ ≠ (u8 : Value).ownBlock)) (HL657_1.out) (fun k_ hk => ⟨⟨hk.1, hk.2.2⟩, hk.2.1⟩))) (Kd.V_reads' (Kd.V_mono (ok' := (fun k_ => ((fun k_ => (P0_ k_ ∨ w.heap.size ≤ k_) ∧ k_ ≠ gb658)) k_ ∧ some k_ ≠ (u8 : Value).ownBlock)) (HL657_2.out) (fun k_ hk => ⟨⟨hk.1, hk.2.2⟩, hk.2.1⟩))).2.1 (Kd.V_F (Kd.V_mono (ok' := (fun k_ => ((fun k_ => (P0_ k_ ∨ w.heap.size ≤ k_) ∧ k_ ≠ gb658)) k_ ∧ some k_ ≠ (u8 : Value).ownBlock)) (HL657_2.out) (fun k_ hk => ⟨⟨hk.1, hk.2.2⟩, hk.2.1⟩))))); (case aB => exact (bq1_ HB.out GE658.out)); (case aF => exact (fun k_ hk => ⟨(.inr (Nat.le_trans (below_size (bq1_ HB.out GE658.out)) hk)), Kd.freshB (g := gb658) (o := .cells #[.int .i64 ((rd_T25 l0 x9_2).f0), .slice A657_1 ((rd_T25 l0 x9_2).f1).length c657_1, .slice A657_2 ((rd_T25 l0 x9_2).f2).length c657_2] 25 (0, 0)) (mvK_ BK658.out) k_ hk⟩)); (case aO => exact (mvN_ HO_8.out)); (case aS => exact (below_size (bq1_ HB.out GE658.out))); (case aL => have := LMc65.out; omega); intro v696 w70 ho hb hg hat; rw [← Ny695.out] at ho; have HO697 := Aside0.mk (ho); replace HO_0 := Aside0.mk (Kd.V_afterv (ok := (fun k_ => (P0_ k_ ∨ w.heap.size ≤ k_) ∧ k_ ≠ gb658)) (by (with_reducible repeat (first | apply Kd.V_alloc | apply Kd.V_drewN | apply Kd.V_drew)); exact Kd.V_mono HO_0.out (fun _ hk => ⟨⟨hk.1, hk.2.2⟩, hk.2.1⟩)) hg hat); replace HL657_1 := Aside0.mk (Kd.V_afterv (ok := (fun k_ => (P0_ k_ ∨ w.heap.size ≤ k_) ∧ k_ ≠ gb658)) (by (with_reducible repeat (first | apply Kd.V_alloc | apply Kd.V_drewN | apply Kd.V_drew)); exact Kd.V_mono HL657_1.out (fun _ hk => ⟨⟨hk.1, hk.2.2⟩, hk.2.1⟩)) hg hat); replace HL657_2 := Aside0.mk (Kd.V_afterv (ok := (fun k_ => (P0_ k_ ∨ w.heap.size ≤ k_) ∧ k_ ≠ gb658)) (by (with_reducible repeat (first | apply Kd.V_alloc | apply Kd.V_drewN | apply Kd.V_drew)); exact Kd.V_mono HL657_2.out (fun _ hk => ⟨⟨hk.1, hk.2.2⟩, hk.2.1⟩)) hg hat); replace BK658 := Aside0.mk (blk_grown (g := gb658) (o := .cells #[.int .i64 ((rd_T25 l0 x9_2).f0), .slice A657_1 ((rd_T25 l0 x9_2).f1).length c657_1, .slice A657_2 ((rd_T25 l0 x9_2).f2).length c657_2] 25 (0, 0)) (mvK_ BK658.out) hg (Kd.N_away HO_8.out (fun _ hk => hk.2))); replace HB := Aside0.mk (hb); clear HO_8 ho hb hg hat))
           go_roundg k2
           case measure => have := HJ4.out; have := HK2.out; omega
           case rel => exact ⟨(y695), (wrap64 (x9_2 + 1)), (by first | rfl | (simp; done) | (simp [*]; done)), H', ⟨by have := HJ4.out; have := HK2.out; omega⟩, ⟨by (with_reducible repeat (first | apply Kd.V_alloc | apply Kd.V_drewN | apply Kd.V_drew)); exact Kd.V_mono HO_0.out (fun _ hk => ⟨hk.1.1, hk.2⟩)⟩, ⟨by (with_reducible repeat (first | apply Kd.N_alloc | apply Kd.N_drewN | apply Kd.N_drew)); exact Kd.N_mono HO697.out (fun _ hk => hk.1)⟩, ⟨bq1_ HB.out GE658.out⟩⟩
          ·rw [if_neg c65] at H
           exact absurd H (by simp)
       ·rw [if_neg c13] at H
        exact absurd H (by simp)
      ·as_aux_lemma =>
       rw [if_neg c12] at H
       have c12b0 : decide (x9_2 < (l0.length : Int)) = false := decide_eq_false c12
       clear c12
       replace H := Option.bind_eq_some_iff.mp H
       obtain ⟨⟨t646, t649, t650⟩, A710, H⟩ := H
       replace H : ((infer_Shapes.f k2 x8_2).bind fun bt651 => (if t643 = true then ((fullerref11_Same.f k2 t646 bt651.1).bind fun t656 => (if t656 = true then (if t649 = bt651.2.1 then (some (t650 == bt651.2.2)) else (some false)) else (some false))) else (some false))) = some r := H
       have A71 := Aside0.mk A710
       clear A710
       replace H := Option.bind_eq_some_iff.mp H
       obtain ⟨⟨t651, t654, t655⟩, A720, H⟩ := H
       replace H : (if t643 = true then ((fullerref11_Same.f k2 t646 t651).bind fun t656 => (if t656 = true then (if t649 = t654 then (some (t650 == t655)) else (some false)) else (some false))) else (some false)) = some r := H
       have A72 := Aside0.mk A720
       clear A720
       by_cases c73 : t643 = true
       ·as_aux_lemma =>
        subst c73
        have H1 : ((fullerref11_Same.f k2 t646 t651).bind fun t656 => (if t656 = true then (if t649 = t654 then (some (t650 == t655)) else (some false)) else (some false))) = some r := by rw [if_pos rfl] at H; exact H
        clear H
        have H := H1
        clear H1
        replace H := Option.bind_eq_some_iff.mp H
        obtain ⟨t656, A740, H⟩ := H
        replace H : (if t656 = true then (if t649 = t654 then (some (t650 == t655)) else (some false)) else (some false)) = some r := H
        have A74 := Aside0.mk A740
        clear A740
        by_cases c75 : t656 = true
        ·as_aux_lemma =>
         subst c75
         have H1 : (if t649 = t654 then (some (t650 == t655)) else (some false)) = some r := by rw [if_pos rfl] at H; exact H
         clear H
         have H := H1
         clear H1
         by_cases c76 : t649 = t654
         ·as_aux_lemma =>
          rw [if_pos c76] at H
          obtain ⟨c76b0, c76b1⟩ := eqT_ c76
          clear c76
          obtain rfl := Option.some.inj H
          go_wp2_with (first | ((with_reducible refine gate_callee (f := 13) rfl ?_); refine gL_ (some 66) Try.func13 #[.slice A0 l0.length c0] ?_; (with_reducible refine (infer_Shapes.calls k2 _ _ l0 t646 t649 t650 _ ?side1 ?side2 A71.out).mono ?_); (case side1 => exact mvC_ ((Kd.V_reads' HO_0.out).2.2)); (case side2 => exact (Kd.V_reads' HO_0.out).2.1); rintro e w77 ⟨v647, rfl, ho0, hb⟩; refine ⟨_, rfl, ?_⟩; have HO648 := Aside0.mk (Kd.N_lower (Kd.N_mono (ok' := fun k_ => (P0_ k_ ∨ w.heap.size ≤ k_) ∧ some k_ ≠ (u8 : Value).ownBlock) ho0 (fun k_ hk_ => ⟨(.inr (Nat.le_trans (below_size (bq0_ HB.out)) hk_)), (Kd.fresh' (Kd.N_lt (mvN_ HO_8.out)) k_ hk_)⟩)) (below_size (bq0_ HB.out))); replace HO_0 := Aside0.mk (Kd.V_elder' (mvV_ HO_0.out) (Kd.N_base ho0) hb); replace HO_8 := Aside0.mk (Kd.N_elder' (mvN_ HO_8.out) (Kd.N_base ho0) hb); replace HB := Aside0.mk (below_step (bq0_ HB.out) hb); (try clear hb); (try clear ho0); obtain ⟨Ao78, co78, eo78⟩ := Kd.N_slice HO_8.out; subst eo78) | ((with_reducible refine gate_callee (f := 13) rfl ?_); refine gL_ (some 72) Try.func13 #[.slice Ao78 x8_2.length co78] ?_; (with_reducible refine (infer_Shapes.calls k2 _ _ x8_2 t651 t654 t655 _ ?side1 ?side2 A72.out).mono ?_); (case side1 => exact mvC_ ((Kd.N_reads' HO_8.out).2.2)); (case side2 => exact (Kd.N_reads' HO_8.out).2.1); rintro e w79 ⟨v652, rfl, ho0, hb⟩; refine ⟨_, rfl, ?_⟩; have HO653 := Aside0.mk (Kd.N_lower (Kd.N_mono (ok' := fun k_ => (P0_ k_ ∨ w.heap.size ≤ k_) ∧ some k_ ≠ (.slice Ao78 x8_2.length co78 : Value).ownBlock ∧ some k_ ≠ (v647 : Value).ownBlock) ho0 (fun k_ hk_ => ⟨(.inr (Nat.le_trans (below_size (bq0_ HB.out)) hk_)), (Kd.fresh' (Kd.N_lt (mvN_ HO_8.out)) k_ hk_), (Kd.fresh' (Kd.N_lt (mvN_ HO648.out)) k_ hk_)⟩)) (below_size (bq0_ HB.out))); replace HO_0 := Aside0.mk (Kd.V_elder' (mvV_ HO_0.out) (Kd.N_base ho0) hb); replace HO_8 := Aside0.mk (Kd.N_elder' (mvN_ HO_8.out) (Kd.N_base ho0) hb); replace HO648 := Aside0.mk (Kd.N_elder' (mvN_ HO648.out) (Kd.N_base ho0) hb); replace HB := Aside0.mk (below_step (bq0_ HB.out) hb); (try clear hb); (try clear ho0); obtain ⟨Ao80, co80, eo80⟩ := Kd.N_slice HO648.out; subst eo80; obtain ⟨Ao81, co81, eo81⟩ := Kd.N_slice HO653.out; subst eo81) | (go_at_call 16; (with_reducible refine (fullerref11_Same.calls k2 _ _ t646 _ _ t651 true _ ?side1 ?side2 ?side3 ?side4 A74.out).mono ?_); (case side1 => exact mvC_ ((Kd.N_reads' HO648.out).2.2)); (case side2 => exact (Kd.N_reads' HO648.out).2.1); (case side3 => exact mvC_ ((Kd.N_reads' HO653.out).2.2)); (case side4 => exact (Kd.N_reads' HO653.out).2.1); rintro e w82 ⟨rfl, hb⟩; replace HO_0 := Aside0.mk (Kd.V_below (mvV_ HO_0.out) hb); replace HO_8 := Aside0.mk (Kd.N_below (mvN_ HO_8.out) hb); replace HO648 := Aside0.mk (Kd.N_below (mvN_ HO648.out) hb); replace HO653 := Aside0.mk (Kd.N_below (mvN_ HO653.out) hb); replace HB := Aside0.mk (below_step (bq0_ HB.out) hb); (try clear hb)))
          go_ret
          exact ⟨by first | rfl | (simp <;> rfl) | (simp [*] <;> rfl), bq0_ HB.out⟩
         ·as_aux_lemma =>
          rw [if_neg c76] at H
          have c76b0 : (t649 == t654) = false := beq_eq_false_iff_ne.mpr c76
          have c76b1 : (t649 != t654) = true := bne_iff_ne.mpr c76
          obtain rfl := Option.some.inj H
          go_wp2_with (first | ((with_reducible refine gate_callee (f := 13) rfl ?_); refine gL_ (some 66) Try.func13 #[.slice A0 l0.length c0] ?_; (with_reducible refine (infer_Shapes.calls k2 _ _ l0 t646 t649 t650 _ ?side1 ?side2 A71.out).mono ?_); (case side1 => exact mvC_ ((Kd.V_reads' HO_0.out).2.2)); (case side2 => exact (Kd.V_reads' HO_0.out).2.1); rintro e w83 ⟨v647, rfl, ho0, hb⟩; refine ⟨_, rfl, ?_⟩; have HO648 := Aside0.mk (Kd.N_lower (Kd.N_mono (ok' := fun k_ => (P0_ k_ ∨ w.heap.size ≤ k_) ∧ some k_ ≠ (u8 : Value).ownBlock) ho0 (fun k_ hk_ => ⟨(.inr (Nat.le_trans (below_size (bq0_ HB.out)) hk_)), (Kd.fresh' (Kd.N_lt (mvN_ HO_8.out)) k_ hk_)⟩)) (below_size (bq0_ HB.out))); replace HO_0 := Aside0.mk (Kd.V_elder' (mvV_ HO_0.out) (Kd.N_base ho0) hb); replace HO_8 := Aside0.mk (Kd.N_elder' (mvN_ HO_8.out) (Kd.N_base ho0) hb); replace HB := Aside0.mk (below_step (bq0_ HB.out) hb); (try clear hb); (try clear ho0); obtain ⟨Ao84, co84, eo84⟩ := Kd.N_slice HO_8.out; subst eo84) | ((with_reducible refine gate_callee (f := 13) rfl ?_); refine gL_ (some 72) Try.func13 #[.slice Ao84 x8_2.length co84] ?_; (with_reducible refine (infer_Shapes.calls k2 _ _ x8_2 t651 t654 t655 _ ?side1 ?side2 A72.out).mono ?_); (case side1 => exact mvC_ ((Kd.N_reads' HO_8.out).2.2)); (case side2 => exact (Kd.N_reads' HO_8.out).2.1); rintro e w85 ⟨v652, rfl, ho0, hb⟩; refine ⟨_, rfl, ?_⟩; have HO653 := Aside0.mk (Kd.N_lower (Kd.N_mono (ok' := fun k_ => (P0_ k_ ∨ w.heap.size ≤ k_) ∧ some k_ ≠ (.slice Ao84 x8_2.length co84 : Value).ownBlock ∧ some k_ ≠ (v647 : Value).ownBlock) ho0 (fun k_ hk_ => ⟨(.inr (Nat.le_trans (below_size (bq0_ HB.out)) hk_)), (Kd.fresh' (Kd.N_lt (mvN_ HO_8.out)) k_ hk_), (Kd.fresh' (Kd.N_lt (mvN_ HO648.out)) k_ hk_)⟩)) (below_size (bq0_ HB.out))); replace HO_0 := Aside0.mk (Kd.V_elder' (mvV_ HO_0.out) (Kd.N_base ho0) hb); replace HO_8 := Aside0.mk (Kd.N_elder' (mvN_ HO_8.out) (Kd.N_base ho0) hb); replace HO648 := Aside0.mk (Kd.N_elder' (mvN_ HO648.out) (Kd.N_base ho0) hb); replace HB := Aside0.mk (below_step (bq0_ HB.out) hb); (try clear hb); (try clear ho0); obtain ⟨Ao86, co86, eo86⟩ := Kd.N_slice HO648.out; subst eo86; obtain ⟨Ao87, co87, eo87⟩ := Kd.N_slice HO653.out; subst eo87) | (go_at_call 16; (with_reducible refine (fullerref11_Same.calls k2 _ _ t646 _ _ t651 true _ ?side1 ?side2 ?side3 ?side4 A74.out).mono ?_); (case side1 => exact mvC_ ((Kd.N_reads' HO648.out).2.2)); (case side2 => exact (Kd.N_reads' HO648.out).2.1); (case side3 => exact mvC_ ((Kd.N_reads' HO653.out).2.2)); (case side4 => exact (Kd.N_reads' HO653.out).2.1); rintro e w88 ⟨rfl, hb⟩; replace HO_0 := Aside0.mk (Kd.V_below (mvV_ HO_0.out) hb); replace HO_8 := Aside0.mk (Kd.N_below (mvN_ HO_8.out) hb); replace HO648 := Aside0.mk (Kd.N_below (mvN_ HO648.out) hb); replace HO653 := Aside0.mk (Kd.N_below (mvN_ HO653.out) hb); replace HB := Aside0.mk (below_step (bq0_ HB.out) hb); (try clear hb)))
          go_ret
          exact ⟨by first | rfl | (simp <;> rfl) | (simp [*] <;> rfl), bq0_ HB.out⟩
        ·as_aux_lemma =>
         replace c75 := Bool.eq_false_iff.mpr c75
         subst c75
         have H1 : (some false) = some r := by rw [if_neg (show ¬ (false = true) by decide)] at H; exact H
         clear H
         have H := H1
         clear H1
         obtain rfl := Option.some.inj H
         go_wp2_with (first | ((with_reducible refine gate_callee (f := 13) rfl ?_); refine gL_ (some 66) Try.func13 #[.slice A0 l0.length c0] ?_; (with_reducible refine (infer_Shapes.calls k2 _ _ l0 t646 t649 t650 _ ?side1 ?side2 A71.out).mono ?_); (case side1 => exact mvC_ ((Kd.V_reads' HO_0.out).2.2)); (case side2 => exact (Kd.V_reads' HO_0.out).2.1); rintro e w89 ⟨v647, rfl, ho0, hb⟩; refine ⟨_, rfl, ?_⟩; have HO648 := Aside0.mk (Kd.N_lower (Kd.N_mono (ok' := fun k_ => (P0_ k_ ∨ w.heap.size ≤ k_) ∧ some k_ ≠ (u8 : Value).ownBlock) ho0 (fun k_ hk_ => ⟨(.inr (Nat.le_trans (below_size (bq0_ HB.out)) hk_)), (Kd.fresh' (Kd.N_lt (mvN_ HO_8.out)) k_ hk_)⟩)) (below_size (bq0_ HB.out))); replace HO_0 := Aside0.mk (Kd.V_elder' (mvV_ HO_0.out) (Kd.N_base ho0) hb); replace HO_8 := Aside0.mk (Kd.N_elder' (mvN_ HO_8.out) (Kd.N_base ho0) hb); replace HB := Aside0.mk (below_step (bq0_ HB.out) hb); (try clear hb); (try clear ho0); obtain ⟨Ao90, co90, eo90⟩ := Kd.N_slice HO_8.out; subst eo90) | ((with_reducible refine gate_callee (f := 13) rfl ?_); refine gL_ (some 72) Try.func13 #[.slice Ao90 x8_2.length co90] ?_; (with_reducible refine (infer_Shapes.calls k2 _ _ x8_2 t651 t654 t655 _ ?side1 ?side2 A72.out).mono ?_); (case side1 => exact mvC_ ((Kd.N_reads' HO_8.out).2.2)); (case side2 => exact (Kd.N_reads' HO_8.out).2.1); rintro e w91 ⟨v652, rfl, ho0, hb⟩; refine ⟨_, rfl, ?_⟩; have HO653 := Aside0.mk (Kd.N_lower (Kd.N_mono (ok' := fun k_ => (P0_ k_ ∨ w.heap.size ≤ k_) ∧ some k_ ≠ (.slice Ao90 x8_2.length co90 : Value).ownBlock ∧ some k_ ≠ (v647 : Value).ownBlock) ho0 (fun k_ hk_ => ⟨(.inr (Nat.le_trans (below_size (bq0_ HB.out)) hk_)), (Kd.fresh' (Kd.N_lt (mvN_ HO_8.out)) k_ hk_), (Kd.fresh' (Kd.N_lt (mvN_ HO648.out)) k_ hk_)⟩)) (below_size (bq0_ HB.out))); replace HO_0 := Aside0.mk (Kd.V_elder' (mvV_ HO_0.out) (Kd.N_base ho0) hb); replace HO_8 := Aside0.mk (Kd.N_elder' (mvN_ HO_8.out) (Kd.N_base ho0) hb); replace HO648 := Aside0.mk (Kd.N_elder' (mvN_ HO648.out) (Kd.N_base ho0) hb); replace HB := Aside0.mk (below_step (bq0_ HB.out) hb); (try clear hb); (try clear ho0); obtain ⟨Ao92, co92, eo92⟩ := Kd.N_slice HO648.out; subst eo92; obtain ⟨Ao93, co93, eo93⟩ := Kd.N_slice HO653.out; subst eo93) | (go_at_call 16; (with_reducible refine (fullerref11_Same.calls k2 _ _ t646 _ _ t651 false _ ?side1 ?side2 ?side3 ?side4 A74.out).mono ?_); (case side1 => exact mvC_ ((Kd.N_reads' HO648.out).2.2)); (case side2 => exact (Kd.N_reads' HO648.out).2.1); (case side3 => exact mvC_ ((Kd.N_reads' HO653.out).2.2)); (case side4 => exact (Kd.N_reads' HO653.out).2.1); rintro e w94 ⟨rfl, hb⟩; replace HO_0 := Aside0.mk (Kd.V_below (mvV_ HO_0.out) hb); replace HO_8 := Aside0.mk (Kd.N_below (mvN_ HO_8.out) hb); replace HO648 := Aside0.mk (Kd.N_below (mvN_ HO648.out) hb); replace HO653 := Aside0.mk (Kd.N_below (mvN_ HO653.out) hb); replace HB := Aside0.mk (below_step (bq0_ HB.out) hb); (try clear hb)))
         go_ret
         exact ⟨by first | rfl | (simp <;> rfl) | (simp [*] <;> rfl), bq0_ HB.out⟩
       ·as_aux_lemma =>
        replace c73 := Bool.eq_false_iff.mpr c73
        subst c73
        have H1 : (some false) = some r := by rw [if_neg (show ¬ (false = true) by decide)] at H; exact H
        clear H
        have H := H1
        clear H1
        obtain rfl := Option.some.inj H
        go_wp2_with (first | ((with_reducible refine gate_callee (f := 13) rfl ?_); refine gL_ (some 66) Try.func13 #[.slice A0 l0.length c0] ?_; (with_reducible refine (infer_Shapes.calls k2 _ _ l0 t646 t649 t650 _ ?side1 ?side2 A71.out).mono ?_); (case side1 => exact mvC_ ((Kd.V_reads' HO_0.out).2.2)); (case side2 => exact (Kd.V_reads' HO_0.out).2.1); rintro e w95 ⟨v647, rfl, ho0, hb⟩; refine ⟨_, rfl, ?_⟩; have HO648 := Aside0.mk (Kd.N_lower (Kd.N_mono (ok' := fun k_ => (P0_ k_ ∨ w.heap.size ≤ k_) ∧ some k_ ≠ (u8 : Value).ownBlock) ho0 (fun k_ hk_ => ⟨(.inr (Nat.le_trans (below_size (bq0_ HB.out)) hk_)), (Kd.fresh' (Kd.N_lt (mvN_ HO_8.out)) k_ hk_)⟩)) (below_size (bq0_ HB.out))); replace HO_0 := Aside0.mk (Kd.V_elder' (mvV_ HO_0.out) (Kd.N_base ho0) hb); replace HO_8 := Aside0.mk (Kd.N_elder' (mvN_ HO_8.out) (Kd.N_base ho0) hb); replace HB := Aside0.mk (below_step (bq0_ HB.out) hb); (try clear hb); (try clear ho0); obtain ⟨Ao96, co96, eo96⟩ := Kd.N_slice HO_8.out; subst eo96) | ((with_reducible refine gate_callee (f := 13) rfl ?_); refine gL_ (some 72) Try.func13 #[.slice Ao96 x8_2.length co96] ?_; (with_reducible refine (infer_Shapes.calls k2 _ _ x8_2 t651 t654 t655 _ ?side1 ?side2 A72.out).mono ?_); (case side1 => exact mvC_ ((Kd.N_reads' HO_8.out).2.2)); (case side2 => exact (Kd.N_reads' HO_8.out).2.1); rintro e w97 ⟨v652, rfl, ho0, hb⟩; refine ⟨_, rfl, ?_⟩; have HO653 := Aside0.mk (Kd.N_lower (Kd.N_mono (ok' := fun k_ => (P0_ k_ ∨ w.heap.size ≤ k_) ∧ some k_ ≠ (.slice Ao96 x8_2.length co96 : Value).ownBlock ∧ some k_ ≠ (v647 : Value).ownBlock) ho0 (fun k_ hk_ => ⟨(.inr (Nat.le_trans (below_size (bq0_ HB.out)) hk_)), (Kd.fresh' (Kd.N_lt (mvN_ HO_8.out)) k_ hk_), (Kd.fresh' (Kd.N_lt (mvN_ HO648.out)) k_ hk_)⟩)) (below_size (bq0_ HB.out))); replace HO_0 := Aside0.mk (Kd.V_elder' (mvV_ HO_0.out) (Kd.N_base ho0) hb); replace HO_8 := Aside0.mk (Kd.N_elder' (mvN_ HO_8.out) (Kd.N_base ho0) hb); replace HO648 := Aside0.mk (Kd.N_elder' (mvN_ HO648.out) (Kd.N_base ho0) hb); replace HB := Aside0.mk (below_step (bq0_ HB.out) hb); (try clear hb); (try clear ho0)))
        go_ret
        exact ⟨by first | rfl | (simp <;> rfl) | (simp [*] <;> rfl), bq0_ HB.out⟩

/-- THE ONE PURE STATEMENT of fullerlaw11_InferSame: yours. -/
def fullerlaw11_InferSame.Pure : Prop := ∀ (l0 : List (S25)) (a1 : Int) (a2 : Int), (l0.length * 56 ≤ 140737488351232 ∧ ∀ x_ ∈ l0, OK25 x_) → ((Lit.int .i64 a1).wf = true) → ((Lit.int .u8 a2).wf = true) → ∃ k, fullerlaw11_InferSame.f k l0 a1 a2 = some true
theorem fullerlaw11_InferSame.walk (P : fullerlaw11_InferSame.Pure) (P0_ : Nat → Prop) (A0 : Option Addr) (c0 : Nat) (l0 : List (S25)) (a1 : Int) (a2 : Int) (w : World) (hr0 : Kd.C k25 w A0 l0.length l0) (hc0 : l0.length ≤ c0) (hg0 : l0.length * 56 ≤ 140737488351232 ∧ ∀ x_ ∈ l0, OK25 x_) (hg1 : (Lit.int .i64 a1).wf = true) (hg2 : (Lit.int .u8 a2).wf = true) :
  Calls Try.prog 7 #[.slice A0 l0.length c0, .int .i64 a1, .int .u8 a2] w fun e w' => e = .returned (.bool true) ∧ Below w.heap.size w w' := by
 obtain ⟨k, h⟩ := P l0 a1 a2 hg0 hg1 hg2
 refine (fullerlaw11_InferSame.calls k (fun k_ => k_ < w.heap.size) _ _ l0 a1 a2 true w (Kd.V_mk hc0 (Kd.C_F k25_heap hr0)) h).mono ?_
 rintro e w' ⟨rfl, hd⟩
 exact ⟨rfl, hd⟩

end Go.Proofs.Ytalmgghhpgfgoaa.A
