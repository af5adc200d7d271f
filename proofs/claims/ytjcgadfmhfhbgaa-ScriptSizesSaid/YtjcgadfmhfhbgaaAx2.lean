/- Lean functions that answer as the Go functions do, and the proofs that they do; no conditions. Written by this session's own driver: a scratch copy of the kit's print with the session's additions (wip/xprint). -/
import Derived.Test.YtjcgadfmhfhbgaaAx0
namespace Go.Proofs.Ytjcgadfmhfhbgaa.A
open Go.RowKit Go.Proofs.YtjcgadfmhfhbgaaW.PrintWords Go.Proofs.YtjcgadfmhfhbgaaW.PrintLast Go.Proofs.YtjcgadfmhfhbgaaW.PrintMore
attribute [local go_sem] max2_int min2_int max_two min_two max_three min_three max_four min_four
set_option linter.unusedVariables false
set_option linter.unusedSimpArgs false
def kindL : List (Int × (Int × Int)) := [(1, 0, -1), (2, 0, -2), (3, 0, 1), (10, 2, 0), (11, 2, 0), (12, 2, 0), (13, 2, 0), (20, 1, 0), (21, 1, 0), (22, 1, 0), (23, 1, 0), (30, 2, 0), (40, 1, -1), (41, 1, 0), (42, 1, 3), (43, 2, 1), (50, 1, 1), (51, 1, 1), (52, 1, 1)]
def kindV (l : List (Int × (Int × Int))) : List (Int × Value) := l.map fun p => (p.1, .agg #[.int .i64 p.2.1, .int .i64 p.2.2])
structure KInv (B : Nat) (w0 w : World) (es : List (Int × Value)) : Prop where
  bel : Below B w0 w
  size : B + 3 ≤ w.heap.size
  im : IM w (B + 1 + 1) es
  c0 : w.cell? ⟨B, 0, none⟩ = some (.int .i64 2)
  c1 : w.cell? ⟨B, 1, none⟩ = some (.int .i64 0)
  c2 : w.cell? ⟨B + 1, 0, none⟩ = some (.int .i64 1)
  c3 : w.cell? ⟨B + 1, 1, none⟩ = some (.int .i64 0)
theorem KInv.next {B : Nat} {w0 w w1 : World} {es es' : List (Int × Value)} (h : KInv B w0 w es) (hi : IM w1 (B + 1 + 1) es') (hg : w.grownBy w1 (some (B + 1 + 1))) : KInv B w0 w1 es' := by
  have hs := h.size
  have b0 : w1.heap[B]? = w.heap[B]? := hg.block B (by omega) (by simp; omega)
  have b1 : w1.heap[B + 1]? = w.heap[B + 1]? := hg.block (B + 1) (by omega) (by simp)
  exact ⟨h.bel.grown hg (by omega) (fun k hk => by injection hk with hk; omega), Nat.le_trans hs hg.size, hi, (World.cell?_of_block b0).trans h.c0, (World.cell?_of_block b0).trans h.c1, (World.cell?_of_block b1).trans h.c2, (World.cell?_of_block b1).trans h.c3⟩
theorem KInv.start (w : World) (t : TypeId) : KInv w.heap.size w (((w.alloc (.cells #[.int .i64 2, .int .i64 0] t)).alloc (.cells #[.int .i64 1, .int .i64 0] t)).alloc (.map #[] 0)) [] := by
  refine ⟨below_alloc (below_alloc (below_alloc (Below.refl _ _) _) _) _, by simp, ⟨#[], 0, ?_, rfl⟩, ?_, ?_, ?_, ?_⟩
  · have := (MapKept.heap_alloc ((w.alloc (.cells #[.int .i64 2, .int .i64 0] t)).alloc (.cells #[.int .i64 1, .int .i64 0] t)) (.map #[] 0)).1
    simpa using this
  · rw [World.cell?_alloc_past _ _ _ (by simp; omega), World.cell?_alloc_past _ _ _ (by simp), World.cell?_alloc_at _ _ _ _ rfl]; rfl
  · rw [World.cell?_alloc_past _ _ _ (by simp; omega), World.cell?_alloc_past _ _ _ (by simp), World.cell?_alloc_at _ _ _ _ rfl]; rfl
  · rw [World.cell?_alloc_past _ _ _ (by simp), World.cell?_alloc_at _ _ _ _ (by simp)]; rfl
  · rw [World.cell?_alloc_past _ _ _ (by simp), World.cell?_alloc_at _ _ _ _ (by simp)]; rfl
set_option maxHeartbeats 8000000 in
set_option maxRecDepth 100000 in
theorem graph_kinds.calls (w : World) : Calls Try.prog 53 #[] w fun e w' => ∃ b, e = .returned (.map (some b)) ∧ w.heap.size ≤ b ∧ b < w'.heap.size ∧ IM w' b (kindV kindL) ∧ Below w.heap.size w w' := by
  have hmm := @run_makeMap Try.prog
  have HI := Aside0.mk (KInv.start w 90)
  go_enter Try.func53, Try.ntmps53
  go_wp2_with ((with_reducible refine wpList_im_put (o := ⟨none, .insert 86 _ _ _, _, _, _, _⟩) rfl _ _ _ (Or.inl rfl) Try.underlying86 Try.underlying3 _ _ HI.out.im rfl rfl rfl ?_); intro w1 h1 g1; have hn := Aside0.mk (HI.out.next h1 g1); clear HI h1 g1; have HI := hn; clear hn; (try clear c0 c1 c2 c3); have c0 := HI.out.c0; have c1 := HI.out.c1; have c2 := HI.out.c2; have c3 := HI.out.c3)
  go_ret
  exact ⟨_, rfl, by omega, by have := HI.out.size; omega, HI.out.im.cast (by kernel_rfl), HI.out.bel⟩
def shape_Check.l0 : Nat → Int → List Int → Int → Int → Option (Bool)
  | 0, _, _, _, _ => none
  | k + 1, x3, x9, x10, x11 => if x11 < x10 then (if 0 ≤ x11 then (if x11 < (x9.length : Int) then (if (rd x9 x11) < 1 then (some false) else (if (rd x9 x11) > 16 then (some false) else (shape_Check.l0 k (wrap64 (x3 * (rd x9 x11))) x9 x10 (wrap64 (x11 + 1))))) else (none)) else (none)) else (if x3 > 0 then (some (decide (x3 ≤ 64))) else (some false))
def shape_Check.f (k : Nat) (l0 : List Int) : Option (Bool) := if (l0.length : Int) > 3 then (some false) else (shape_Check.l0 k 1 l0 (l0.length : Int) 0)
theorem shape_Check.mono_l : ∀ k, (∀ y0 y1 y2 y3, LeO (shape_Check.l0 k y0 y1 y2 y3) (shape_Check.l0 (k + 1) y0 y1 y2 y3))
  | 0 => fun _ _ _ _ r h => by simp [shape_Check.l0] at h
  | k + 1 => by
    have ih0 := shape_Check.mono_l k
    · intro y0 y1 y2 y3
      unfold shape_Check.l0
      repeat' first
       | (with_reducible first | exact ih0 _ _ _ _ | exact LeO.refl _ | exact LeO.none _ | refine LeO.ite ?_ ?_ | refine LeO.bind ?_ (fun _ => ?_))
       | first | exact ih0 _ _ _ _ | exact LeO.none _ | refine LeO.ite ?_ ?_ | refine LeO.bind ?_ (fun _ => ?_)
theorem shape_Check.mono : ∀ a0 k, LeO (shape_Check.f k a0) (shape_Check.f (k + 1) a0) := by
  intro a0 k
  have ih0 := shape_Check.mono_l k
  unfold shape_Check.f
  repeat' first
   | (with_reducible first | exact ih0 _ _ _ _ | exact LeO.refl _ | exact LeO.none _ | refine LeO.ite ?_ ?_ | refine LeO.bind ?_ (fun _ => ?_))
   | first | exact ih0 _ _ _ _ | exact LeO.none _ | refine LeO.ite ?_ ?_ | refine LeO.bind ?_ (fun _ => ?_)
set_option maxHeartbeats 8000000 in
set_option maxRecDepth 100000 in
theorem shape_Check.calls (k : Nat) (A0 : Option Addr) (c0 : Nat) (l0 : List Int) (r : Bool) (w : World) (hr0 : Kd.C (Kd.int .i64) w A0 l0.length l0) (hc0 : l0.length ≤ c0) (h : shape_Check.f k l0 = some r) :
    Calls Try.prog 59 #[.slice A0 l0.length c0] w fun e w' => e = .returned (.bool r) ∧ Drawn0 w w' := by
  have HR0 := Aside0.mk hr0
  have HC0 := Aside0.mk hc0
  clear hr0 hc0
  have H : (if (l0.length : Int) > 3 then (some false) else (shape_Check.l0 k 1 l0 (l0.length : Int) 0)) = some r := h
  clear h
  by_cases c2 : (l0.length : Int) > 3
  · rw [if_pos c2] at H
    have c2b0 : decide (3 < (l0.length : Int)) = true := decide_eq_true c2
    have c2b1 : decide (3 < l0.length) = true := decide_eq_true (by omega)
    clear c2
    obtain rfl := Option.some.inj H
    go_enter Try.func59, Try.ntmps59
    (go_wp2; repeat (go_step3; go_wp2))
    (try rw [Exit.noGoto_ret])
    go_ret
    exact ⟨by first | rfl | (simp; done) | (simp [*]; done), by repeat (first | exact Drawn0.refl _ | apply Drawn0.step)⟩
  · rw [if_neg c2] at H
    have c2b0 : decide (3 < (l0.length : Int)) = false := decide_eq_false c2
    have c2b1 : decide (3 < l0.length) = false := decide_eq_false (by omega)
    clear c2
    have H' := Aside0.mk H
    clear H
    go_enter Try.func59, Try.ntmps59
    (go_wp2; repeat (go_step3; go_wp2))
    go_loopg [3, 11] k (fun kq v3 v11 w' => ∃ (x3_1 : Int) (x11_1 : Int), v3 = .int .i64 x3_1 ∧ v11 = .int .i64 x11_1 ∧ Aside0 (shape_Check.l0 kq x3_1 l0 (l0.length : Int) x11_1 = some r) ∧ Aside0 (kq ≤ k) ∧ Drawn0 w w')
    case atStart => exact ⟨(1), (0), (by first | rfl | (simp; done) | (simp [*]; done)), (by first | rfl | (simp; done) | (simp [*]; done)), H', ⟨Nat.le_refl _⟩, by repeat (first | exact Drawn0.refl _ | apply Drawn0.step)⟩
    case round =>
      clear H'
      try clear c2
      try clear c2b0
      try clear c2b1
      try clear p2
      obtain ⟨x3_1, x11_1, rfl, rfl, HA, HK1, ⟨m1, rfl⟩⟩ := hrel
      cases gk with
      | zero => exact absurd HA.out (by simp [shape_Check.l0])
      | succ k1 =>
        have H := HA.out
        clear HA
        simp only [shape_Check.l0] at H
        by_cases c3 : x11_1 < (l0.length : Int)
        · rw [if_pos c3] at H
          have c3b0 : decide (x11_1 < (l0.length : Int)) = true := decide_eq_true c3
          clear c3
          by_cases c4 : 0 ≤ x11_1
          · rw [if_pos c4] at H
            have c4b0 : decide (0 ≤ x11_1) = true := decide_eq_true c4
            clear c4
            by_cases c5 : x11_1 < (l0.length : Int)
            · rw [if_pos c5] at H
              have c5b0 : decide (x11_1 < (l0.length : Int)) = true := decide_eq_true c5
              clear c5
              by_cases c6 : (rd l0 x11_1) < 1
              · rw [if_pos c6] at H
                have c6b0 : decide ((rd l0 x11_1) < 1) = true := decide_eq_true c6
                clear c6
                obtain rfl := Option.some.inj H
                have p101 : 0 ≤ (x11_1 : Int) := of_decide_eq_true (by first | (with_reducible assumption) | assumption)
                have q101 : x11_1 < (l0.length : Int) := of_decide_eq_true (by first | (with_reducible assumption) | assumption)
                obtain ⟨ad101, e101, hx101_0⟩ := Kd.at_int HR0.out x11_1 p101 q101
                cases e101
                replace p101 := eq_true p101
                replace q101 := eq_true q101
                (go_wp2; repeat (go_step3; go_wp2))
                (try rw [Exit.noGoto_ret])
                go_ret
                exact ⟨by first | rfl | (simp; done) | (simp [*]; done), by repeat (first | exact Drawn0.refl _ | apply Drawn0.step)⟩
              · rw [if_neg c6] at H
                have c6b0 : decide ((rd l0 x11_1) < 1) = false := decide_eq_false c6
                clear c6
                by_cases c7 : (rd l0 x11_1) > 16
                · rw [if_pos c7] at H
                  have c7b0 : decide (16 < (rd l0 x11_1)) = true := decide_eq_true c7
                  clear c7
                  obtain rfl := Option.some.inj H
                  have p101 : 0 ≤ (x11_1 : Int) := of_decide_eq_true (by first | (with_reducible assumption) | assumption)
                  have q101 : x11_1 < (l0.length : Int) := of_decide_eq_true (by first | (with_reducible assumption) | assumption)
                  obtain ⟨ad101, e101, hx101_0⟩ := Kd.at_int HR0.out x11_1 p101 q101
                  cases e101
                  replace p101 := eq_true p101
                  replace q101 := eq_true q101
                  (go_wp2; repeat (go_step3; go_wp2))
                  (try rw [Exit.noGoto_ret])
                  go_ret
                  exact ⟨by first | rfl | (simp; done) | (simp [*]; done), by repeat (first | exact Drawn0.refl _ | apply Drawn0.step)⟩
                · rw [if_neg c7] at H
                  have c7b0 : decide (16 < (rd l0 x11_1)) = false := decide_eq_false c7
                  clear c7
                  have H' := Aside0.mk H
                  clear H
                  have p101 : 0 ≤ (x11_1 : Int) := of_decide_eq_true (by first | (with_reducible assumption) | assumption)
                  have q101 : x11_1 < (l0.length : Int) := of_decide_eq_true (by first | (with_reducible assumption) | assumption)
                  obtain ⟨ad101, e101, hx101_0⟩ := Kd.at_int HR0.out x11_1 p101 q101
                  cases e101
                  replace p101 := eq_true p101
                  replace q101 := eq_true q101
                  (go_wp2; repeat (go_step3; go_wp2))
                  go_roundg k1
                  case measure => have := HK1.out; omega
                  case rel => exact ⟨(wrap64 (x3_1 * (rd l0 x11_1))), (wrap64 (x11_1 + 1)), (by first | rfl | (simp; done) | (simp [*]; done)), (by first | rfl | (simp; done) | (simp [*]; done)), H', ⟨by have := HK1.out; omega⟩, by repeat (first | exact Drawn0.refl _ | apply Drawn0.step)⟩
            · rw [if_neg c5] at H
              exact absurd H (by simp)
          · rw [if_neg c4] at H
            exact absurd H (by simp)
        · rw [if_neg c3] at H
          have c3b0 : decide (x11_1 < (l0.length : Int)) = false := decide_eq_false c3
          clear c3
          by_cases c8 : x3_1 > 0
          · rw [if_pos c8] at H
            have c8b0 : decide (0 < x3_1) = true := decide_eq_true c8
            clear c8
            obtain rfl := Option.some.inj H
            (go_wp2; repeat (go_step3; go_wp2))
            (try rw [Exit.noGoto_ret])
            go_ret
            exact ⟨by first | rfl | (simp; done) | (simp [*]; done), by repeat (first | exact Drawn0.refl _ | apply Drawn0.step)⟩
          · rw [if_neg c8] at H
            have c8b0 : decide (0 < x3_1) = false := decide_eq_false c8
            clear c8
            obtain rfl := Option.some.inj H
            (go_wp2; repeat (go_step3; go_wp2))
            (try rw [Exit.noGoto_ret])
            go_ret
            exact ⟨by first | rfl | (simp; done) | (simp [*]; done), by repeat (first | exact Drawn0.refl _ | apply Drawn0.step)⟩
def graph_well.f (k : Nat) (a0_0 : Int) (l0_1 : List Int) (l0_2 : List Int) (a1_0 : Int) (a1_1 : Int) : Option (Bool) := if a1_1 = (-2) then (if (l0_2.length : Int) = 0 then (some false) else (if 0 < (l0_2.length : Int) then (if (rd l0_2 0) < 0 then (some false) else (if (rd l0_2 0) ≥ 8 then (some false) else (if 1 ≤ (l0_2.length : Int) then ((shape_Check.f k (l0_2.drop 1)).bind fun t107 => (some t107)) else (none)))) else (none))) else (if a1_1 = (-1) then ((shape_Check.f k l0_2).bind fun t108 => (some t108)) else (some ((l0_2.length : Int) == a1_1)))
set_option maxHeartbeats 8000000 in
set_option maxRecDepth 100000 in
theorem graph_well.calls (k : Nat) (a0_0 : Int) (A0_1 : Option Addr) (c0_1 : Nat) (l0_1 : List Int) (A0_2 : Option Addr) (c0_2 : Nat) (l0_2 : List Int) (a1_0 : Int) (a1_1 : Int) (r : Bool) (w : World) (hr0_1 : Kd.C (Kd.int .i64) w A0_1 l0_1.length l0_1) (hc0_1 : l0_1.length ≤ c0_1) (hr0_2 : Kd.C (Kd.int .i64) w A0_2 l0_2.length l0_2) (hc0_2 : l0_2.length ≤ c0_2) (h : graph_well.f k a0_0 l0_1 l0_2 a1_0 a1_1 = some r) :
  Calls Try.prog 55 #[.agg #[.int .i64 a0_0, .slice A0_1 l0_1.length c0_1, .slice A0_2 l0_2.length c0_2], .agg #[.int .i64 a1_0, .int .i64 a1_1]] w fun e w' => e = .returned (.bool r) ∧ Below w.heap.size w w' := by
 have hu48 := Try.underlying48
 have hu90 := Try.underlying90
 have HR0_1 := Aside0.mk hr0_1
 have HC0_1 := Aside0.mk hc0_1
 clear hr0_1 hc0_1
 have HR0_2 := Aside0.mk hr0_2
 have HC0_2 := Aside0.mk hc0_2
 clear hr0_2 hc0_2
 have HB := Aside0.mk (Below.refl w.heap.size w)
 have H : (if a1_1 = (-2) then (if (l0_2.length : Int) = 0 then (some false) else (if 0 < (l0_2.length : Int) then (if (rd l0_2 0) < 0 then (some false) else (if (rd l0_2 0) ≥ 8 then (some false) else (if 1 ≤ (l0_2.length : Int) then ((shape_Check.f k (l0_2.drop 1)).bind fun t107 => (some t107)) else (none)))) else (none))) else (if a1_1 = (-1) then ((shape_Check.f k l0_2).bind fun t108 => (some t108)) else (some ((l0_2.length : Int) == a1_1)))) = some r := h
 clear h
 by_cases c3 : a1_1 = (-2)
 ·rw [if_pos c3] at H
  obtain ⟨c3b0, c3b1⟩ := eqT_ c3
  clear c3
  by_cases c4 : (l0_2.length : Int) = 0
  ·rw [if_pos c4] at H
   obtain ⟨c4b0, c4b1⟩ := eqT_ c4
   clear c4
   obtain rfl := Option.some.inj H
   go_enter Try.func55, Try.ntmps55
   go_wp2_with (first | ((with_reducible refine gate_dst (N := 2) rfl ?_); refine box_event ?hg (N := 2) ?hd (cs := #[.int .i64 a0_0, .slice A0_1 l0_1.length c0_1, .slice A0_2 l0_2.length c0_2]) (t := 48) ?hr ?_; (case hd => rfl); (case hg => rfl); (case hr => first | (go_simp; done) | (go_simp; rfl)); intro gb102 hg w5 hbox hb; have BK102 := Aside0.mk (hbox); have GW102 := Aside0.mk ((by rw [hg]; exact (below_size (bq0_ HB.out)) : w.heap.size ≤ gb102)); have GE102 := Aside0.mk ((by rw [hg]; exact (below_size (bq0_ HB.out)) : w.heap.size ≤ gb102)); replace HB := Aside0.mk (below_step (bq0_ HB.out) hb); clear hb hbox hg) | ((with_reducible refine gate_dst (N := 3) rfl ?_); refine box_event ?hg (N := 3) ?hd (cs := #[.int .i64 a1_0, .int .i64 a1_1]) (t := 90) ?hr ?_; (case hd => rfl); (case hg => rfl); (case hr => first | (go_simp; done) | (go_simp; rfl)); intro gb103 hg w6 hbox hb; have BK103 := Aside0.mk (hbox); have GW103 := Aside0.mk ((by rw [hg]; exact (below_size (bq1_ HB.out GE102.out)) : w.heap.size ≤ gb103)); have GE103 := Aside0.mk ((by rw [hg]; exact (below_size (bq1_ HB.out GE102.out)) : w.heap.size ≤ gb103)); have NB102_103 := Aside0.mk ((by rw [hg]; exact Nat.ne_of_lt (blk_lt (g := gb102) (o := .cells #[.int .i64 a0_0, .slice A0_1 l0_1.length c0_1, .slice A0_2 l0_2.length c0_2] 48 (0, 0)) (mvK_ BK102.out)) : gb102 ≠ gb103)); have NB103_102 := Aside0.mk ((by rw [hg]; exact Nat.ne_of_gt (blk_lt (g := gb102) (o := .cells #[.int .i64 a0_0, .slice A0_1 l0_1.length c0_1, .slice A0_2 l0_2.length c0_2] 48 (0, 0)) (mvK_ BK102.out)) : gb103 ≠ gb102)); replace BK102 := mvB_ BK102.out hb; replace HB := Aside0.mk (below_step (bq1_ HB.out GE102.out) hb); clear hb hbox hg; have hnb7 := NB102_103.out; have hnc7 := NB103_102.out; have hcz8_0 := cz0_ BK102.out; have hcz8_1 := cz1_ BK102.out; have hcz8_2 := cz2_ BK102.out; have hfz8_0 := blk_frozen BK102.out 0; have hfz8_1 := blk_frozen BK102.out 1; have hfz8_2 := blk_frozen BK102.out 2; have hcz9_0 := cz0_ BK103.out; have hcz9_1 := cz1_ BK103.out; have hfz9_0 := blk_frozen BK103.out 0; have hfz9_1 := blk_frozen BK103.out 1))
   go_ret
   exact ⟨by first | rfl | (simp <;> rfl) | (simp [*] <;> rfl), bq2_ HB.out GE102.out GE103.out⟩
  ·rw [if_neg c4] at H
   have c4b0 : ((l0_2.length : Int) == 0) = false := beq_eq_false_iff_ne.mpr c4
   have c4b1 : ((l0_2.length : Int) != 0) = true := bne_iff_ne.mpr c4
   have c4b2 : ¬ (l0_2 = []) := fun h_ => c4 (by rw [h_]; rfl)
   by_cases c10 : 0 < (l0_2.length : Int)
   ·rw [if_pos c10] at H
    have c10b0 : decide (0 < (l0_2.length : Int)) = true := decide_eq_true c10
    have c10b1 : decide (0 < l0_2.length) = true := decide_eq_true (by omega)
    clear c10
    by_cases c11 : (rd l0_2 0) < 0
    ·rw [if_pos c11] at H
     have c11b0 : decide ((rd l0_2 0) < 0) = true := decide_eq_true c11
     clear c11
     obtain rfl := Option.some.inj H
     go_enter Try.func55, Try.ntmps55
     go_wp2_with (first | ((with_reducible refine gate_dst (N := 2) rfl ?_); refine box_event ?hg (N := 2) ?hd (cs := #[.int .i64 a0_0, .slice A0_1 l0_1.length c0_1, .slice A0_2 l0_2.length c0_2]) (t := 48) ?hr ?_; (case hd => rfl); (case hg => rfl); (case hr => first | (go_simp; done) | (go_simp; rfl)); intro gb102 hg w12 hbox hb; have BK102 := Aside0.mk (hbox); have GW102 := Aside0.mk ((by rw [hg]; exact (below_size (bq0_ HB.out)) : w.heap.size ≤ gb102)); have GE102 := Aside0.mk ((by rw [hg]; exact (below_size (bq0_ HB.out)) : w.heap.size ≤ gb102)); replace HB := Aside0.mk (below_step (bq0_ HB.out) hb); clear hb hbox hg) | ((with_reducible refine gate_dst (N := 3) rfl ?_); refine box_event ?hg (N := 3) ?hd (cs := #[.int .i64 a1_0, .int .i64 a1_1]) (t := 90) ?hr ?_; (case hd => rfl); (case hg => rfl); (case hr => first | (go_simp; done) | (go_simp; rfl)); intro gb103 hg w13 hbox hb; have BK103 := Aside0.mk (hbox); have GW103 := Aside0.mk ((by rw [hg]; exact (below_size (bq1_ HB.out GE102.out)) : w.heap.size ≤ gb103)); have GE103 := Aside0.mk ((by rw [hg]; exact (below_size (bq1_ HB.out GE102.out)) : w.heap.size ≤ gb103)); have NB102_103 := Aside0.mk ((by rw [hg]; exact Nat.ne_of_lt (blk_lt (g := gb102) (o := .cells #[.int .i64 a0_0, .slice A0_1 l0_1.length c0_1, .slice A0_2 l0_2.length c0_2] 48 (0, 0)) (mvK_ BK102.out)) : gb102 ≠ gb103)); have NB103_102 := Aside0.mk ((by rw [hg]; exact Nat.ne_of_gt (blk_lt (g := gb102) (o := .cells #[.int .i64 a0_0, .slice A0_1 l0_1.length c0_1, .slice A0_2 l0_2.length c0_2] 48 (0, 0)) (mvK_ BK102.out)) : gb103 ≠ gb102)); replace BK102 := mvB_ BK102.out hb; replace HB := Aside0.mk (below_step (bq1_ HB.out GE102.out) hb); clear hb hbox hg; have hnb14 := NB102_103.out; have hnc14 := NB103_102.out; have hcz15_0 := cz0_ BK102.out; have hcz15_1 := cz1_ BK102.out; have hcz15_2 := cz2_ BK102.out; have hfz15_0 := blk_frozen BK102.out 0; have hfz15_1 := blk_frozen BK102.out 1; have hfz15_2 := blk_frozen BK102.out 2; have hcz16_0 := cz0_ BK103.out; have hcz16_1 := cz1_ BK103.out; have hfz16_0 := blk_frozen BK103.out 0; have hfz16_1 := blk_frozen BK103.out 1; have p104 : 0 ≤ (0 : Int) := (by omega); have q104 : 0 < (l0_2.length : Int) := od_; obtain ⟨ad104, e104, hx104_0⟩ := Kd.at_int HR0_2.out 0 p104 q104; cases e104; have qi104 : (0 < l0_2.length) = True := eq_true (by omega); (try rw [show ((0 : Int)).toNat = 0 from rfl] at hx104_0); (try rw [Addr.add_zero'] at hx104_0); replace hx104_0 := hb_ HB hx104_0; replace p104 := eq_true p104; replace q104 := eq_true q104))
     go_ret
     exact ⟨by first | rfl | (simp <;> rfl) | (simp [*] <;> rfl), bq2_ HB.out GE102.out GE103.out⟩
    ·rw [if_neg c11] at H
     have c11b0 : decide ((rd l0_2 0) < 0) = false := decide_eq_false c11
     clear c11
     by_cases c17 : (rd l0_2 0) ≥ 8
     ·rw [if_pos c17] at H
      have c17b0 : decide (8 ≤ (rd l0_2 0)) = true := decide_eq_true c17
      clear c17
      obtain rfl := Option.some.inj H
      go_enter Try.func55, Try.ntmps55
      go_wp2_with (first | ((with_reducible refine gate_dst (N := 2) rfl ?_); refine box_event ?hg (N := 2) ?hd (cs := #[.int .i64 a0_0, .slice A0_1 l0_1.length c0_1, .slice A0_2 l0_2.length c0_2]) (t := 48) ?hr ?_; (case hd => rfl); (case hg => rfl); (case hr => first | (go_simp; done) | (go_simp; rfl)); intro gb102 hg w18 hbox hb; have BK102 := Aside0.mk (hbox); have GW102 := Aside0.mk ((by rw [hg]; exact (below_size (bq0_ HB.out)) : w.heap.size ≤ gb102)); have GE102 := Aside0.mk ((by rw [hg]; exact (below_size (bq0_ HB.out)) : w.heap.size ≤ gb102)); replace HB := Aside0.mk (below_step (bq0_ HB.out) hb); clear hb hbox hg) | ((with_reducible refine gate_dst (N := 3) rfl ?_); refine box_event ?hg (N := 3) ?hd (cs := #[.int .i64 a1_0, .int .i64 a1_1]) (t := 90) ?hr ?_; (case hd => rfl); (case hg => rfl); (case hr => first | (go_simp; done) | (go_simp; rfl)); intro gb103 hg w19 hbox hb; have BK103 := Aside0.mk (hbox); have GW103 := Aside0.mk ((by rw [hg]; exact (below_size (bq1_ HB.out GE102.out)) : w.heap.size ≤ gb103)); have GE103 := Aside0.mk ((by rw [hg]; exact (below_size (bq1_ HB.out GE102.out)) : w.heap.size ≤ gb103)); have NB102_103 := Aside0.mk ((by rw [hg]; exact Nat.ne_of_lt (blk_lt (g := gb102) (o := .cells #[.int .i64 a0_0, .slice A0_1 l0_1.length c0_1, .slice A0_2 l0_2.length c0_2] 48 (0, 0)) (mvK_ BK102.out)) : gb102 ≠ gb103)); have NB103_102 := Aside0.mk ((by rw [hg]; exact Nat.ne_of_gt (blk_lt (g := gb102) (o := .cells #[.int .i64 a0_0, .slice A0_1 l0_1.length c0_1, .slice A0_2 l0_2.length c0_2] 48 (0, 0)) (mvK_ BK102.out)) : gb103 ≠ gb102)); replace BK102 := mvB_ BK102.out hb; replace HB := Aside0.mk (below_step (bq1_ HB.out GE102.out) hb); clear hb hbox hg; have hnb20 := NB102_103.out; have hnc20 := NB103_102.out; have hcz21_0 := cz0_ BK102.out; have hcz21_1 := cz1_ BK102.out; have hcz21_2 := cz2_ BK102.out; have hfz21_0 := blk_frozen BK102.out 0; have hfz21_1 := blk_frozen BK102.out 1; have hfz21_2 := blk_frozen BK102.out 2; have hcz22_0 := cz0_ BK103.out; have hcz22_1 := cz1_ BK103.out; have hfz22_0 := blk_frozen BK103.out 0; have hfz22_1 := blk_frozen BK103.out 1; have p104 : 0 ≤ (0 : Int) := (by omega); have q104 : 0 < (l0_2.length : Int) := od_; obtain ⟨ad104, e104, hx104_0⟩ := Kd.at_int HR0_2.out 0 p104 q104; cases e104; have qi104 : (0 < l0_2.length) = True := eq_true (by omega); (try rw [show ((0 : Int)).toNat = 0 from rfl] at hx104_0); (try rw [Addr.add_zero'] at hx104_0); replace hx104_0 := hb_ HB hx104_0; replace p104 := eq_true p104; replace q104 := eq_true q104; have p105 : 0 ≤ (0 : Int) := (by omega); have q105 : 0 < (l0_2.length : Int) := od_; obtain ⟨ad105, e105, hx105_0⟩ := Kd.at_int HR0_2.out 0 p105 q105; obtain rfl : ad104 = ad105 := (by injection e105); have qi105 : (0 < l0_2.length) = True := eq_true (by omega); (try rw [show ((0 : Int)).toNat = 0 from rfl] at hx105_0); (try rw [Addr.add_zero'] at hx105_0); replace hx105_0 := hb_ HB hx105_0; replace p105 := eq_true p105; replace q105 := eq_true q105))
      go_ret
      exact ⟨by first | rfl | (simp <;> rfl) | (simp [*] <;> rfl), bq2_ HB.out GE102.out GE103.out⟩
     ·rw [if_neg c17] at H
      have c17b0 : decide (8 ≤ (rd l0_2 0)) = false := decide_eq_false c17
      clear c17
      by_cases c23 : 1 ≤ (l0_2.length : Int)
      ·rw [if_pos c23] at H
       have c23b0 := eq_true c23
       have c23b1 : decide (1 ≤ (l0_2.length : Int)) = true := decide_eq_true c23
       clear c23
       replace H := Option.bind_eq_some_iff.mp H
       obtain ⟨t107, A240, H⟩ := H
       replace H : (some t107) = some r := H
       have A24 := Aside0.mk A240
       clear A240
       obtain rfl := Option.some.inj H
       go_enter Try.func55, Try.ntmps55
       go_wp2_with (first | ((with_reducible refine gate_dst (N := 2) rfl ?_); refine box_event ?hg (N := 2) ?hd (cs := #[.int .i64 a0_0, .slice A0_1 l0_1.length c0_1, .slice A0_2 l0_2.length c0_2]) (t := 48) ?hr ?_; (case hd => rfl); (case hg => rfl); (case hr => first | (go_simp; done) | (go_simp; rfl)); intro gb102 hg w25 hbox hb; have BK102 := Aside0.mk (hbox); have GW102 := Aside0.mk ((by rw [hg]; exact (below_size (bq0_ HB.out)) : w.heap.size ≤ gb102)); have GE102 := Aside0.mk ((by rw [hg]; exact (below_size (bq0_ HB.out)) : w.heap.size ≤ gb102)); replace HB := Aside0.mk (below_step (bq0_ HB.out) hb); clear hb hbox hg) | ((with_reducible refine gate_dst (N := 3) rfl ?_); refine box_event ?hg (N := 3) ?hd (cs := #[.int .i64 a1_0, .int .i64 a1_1]) (t := 90) ?hr ?_; (case hd => rfl); (case hg => rfl); (case hr => first | (go_simp; done) | (go_simp; rfl)); intro gb103 hg w26 hbox hb; have BK103 := Aside0.mk (hbox); have GW103 := Aside0.mk ((by rw [hg]; exact (below_size (bq1_ HB.out GE102.out)) : w.heap.size ≤ gb103)); have GE103 := Aside0.mk ((by rw [hg]; exact (below_size (bq1_ HB.out GE102.out)) : w.heap.size ≤ gb103)); have NB102_103 := Aside0.mk ((by rw [hg]; exact Nat.ne_of_lt (blk_lt (g := gb102) (o := .cells #[.int .i64 a0_0, .slice A0_1 l0_1.length c0_1, .slice A0_2 l0_2.length c0_2] 48 (0, 0)) (mvK_ BK102.out)) : gb102 ≠ gb103)); have NB103_102 := Aside0.mk ((by rw [hg]; exact Nat.ne_of_gt (blk_lt (g := gb102) (o := .cells #[.int .i64 a0_0, .slice A0_1 l0_1.length c0_1, .slice A0_2 l0_2.length c0_2] 48 (0, 0)) (mvK_ BK102.out)) : gb103 ≠ gb102)); replace BK102 := mvB_ BK102.out hb; replace HB := Aside0.mk (below_step (bq1_ HB.out GE102.out) hb); clear hb hbox hg; have hnb27 := NB102_103.out; have hnc27 := NB103_102.out; have hcz28_0 := cz0_ BK102.out; have hcz28_1 := cz1_ BK102.out; have hcz28_2 := cz2_ BK102.out; have hfz28_0 := blk_frozen BK102.out 0; have hfz28_1 := blk_frozen BK102.out 1; have hfz28_2 := blk_frozen BK102.out 2; have hcz29_0 := cz0_ BK103.out; have hcz29_1 := cz1_ BK103.out; have hfz29_0 := blk_frozen BK103.out 0; have hfz29_1 := blk_frozen BK103.out 1; have p104 : 0 ≤ (0 : Int) := (by omega); have q104 : 0 < (l0_2.length : Int) := od_; obtain ⟨ad104, e104, hx104_0⟩ := Kd.at_int HR0_2.out 0 p104 q104; cases e104; have qi104 : (0 < l0_2.length) = True := eq_true (by omega); (try rw [show ((0 : Int)).toNat = 0 from rfl] at hx104_0); (try rw [Addr.add_zero'] at hx104_0); replace hx104_0 := hb_ HB hx104_0; replace p104 := eq_true p104; replace q104 := eq_true q104; have p105 : 0 ≤ (0 : Int) := (by omega); have q105 : 0 < (l0_2.length : Int) := od_; obtain ⟨ad105, e105, hx105_0⟩ := Kd.at_int HR0_2.out 0 p105 q105; obtain rfl : ad104 = ad105 := (by injection e105); have qi105 : (0 < l0_2.length) = True := eq_true (by omega); (try rw [show ((0 : Int)).toNat = 0 from rfl] at hx105_0); (try rw [Addr.add_zero'] at hx105_0); replace hx105_0 := hb_ HB hx105_0; replace p105 := eq_true p105; replace q105 := eq_true q105; obtain ⟨i030, hi030, _, hsz30, _⟩ := info_parts info3; obtain ⟨A30, hcut30, hA30, hC30⟩ := print_drop_of (P := Try.prog) (Value.int .i64) 0 24 3 .i64 Try.underlying24 hi030 hsz30 (some ad104) c0_2 l0_2 1 (by omega) od_ HC0_2.out; have HR106 := Aside0.mk (Kd.C_of_reads (h1 := fun _ => rfl) (hA30 _ (Kd.reads_of_C HR0_2.out))); have HC106 := Aside0.mk hC30; clear hA30 hC30 hi030 hsz30) | ((with_reducible refine gate_callee (f := 59) rfl ?_); refine goesL_ (some 32) rfl rfl Try.func59 (by kernel_rfl) rfl #[.slice A30 (l0_2.drop 1).length (c0_2 - 1)] rfl (by (try simp only [List.map_toArray, List.map_cons, List.map_nil]); first | done | (rw [show (l0_2.drop 1).length = (l0_2.length - 1) from List.length_drop] <;> rfl) | rfl | (simp only [List.length_drop, List.length_take]; rfl)) ?_; (with_reducible refine (shape_Check.calls k _ _ (l0_2.drop 1) t107 _ ?side1 ?side2 A24.out).mono ?_); (case side1 => exact mvC_ ((Kd.C_below HR106.out HB.out))); (case side2 => exact HC106.out); rintro e w' ⟨rfl, ⟨nd, rfl⟩⟩; refine ⟨_, rfl, ?_⟩))
       go_ret
       exact ⟨by first | rfl | (simp <;> rfl) | (simp [*] <;> rfl), bq2_ HB.out GE102.out GE103.out⟩
      ·rw [if_neg c23] at H
       exact absurd H (by simp)
   ·rw [if_neg c10] at H
    exact absurd H (by simp)
 ·rw [if_neg c3] at H
  have c3b0 : (a1_1 == (-2)) = false := beq_eq_false_iff_ne.mpr c3
  have c3b1 : (a1_1 != (-2)) = true := bne_iff_ne.mpr c3
  by_cases c31 : a1_1 = (-1)
  ·rw [if_pos c31] at H
   obtain ⟨c31b0, c31b1⟩ := eqT_ c31
   clear c31
   replace H := Option.bind_eq_some_iff.mp H
   obtain ⟨t108, A320, H⟩ := H
   replace H : (some t108) = some r := H
   have A32 := Aside0.mk A320
   clear A320
   obtain rfl := Option.some.inj H
   go_enter Try.func55, Try.ntmps55
   go_wp2_with (first | ((with_reducible refine gate_dst (N := 2) rfl ?_); refine box_event ?hg (N := 2) ?hd (cs := #[.int .i64 a0_0, .slice A0_1 l0_1.length c0_1, .slice A0_2 l0_2.length c0_2]) (t := 48) ?hr ?_; (case hd => rfl); (case hg => rfl); (case hr => first | (go_simp; done) | (go_simp; rfl)); intro gb102 hg w33 hbox hb; have BK102 := Aside0.mk (hbox); have GW102 := Aside0.mk ((by rw [hg]; exact (below_size (bq0_ HB.out)) : w.heap.size ≤ gb102)); have GE102 := Aside0.mk ((by rw [hg]; exact (below_size (bq0_ HB.out)) : w.heap.size ≤ gb102)); replace HB := Aside0.mk (below_step (bq0_ HB.out) hb); clear hb hbox hg) | ((with_reducible refine gate_dst (N := 3) rfl ?_); refine box_event ?hg (N := 3) ?hd (cs := #[.int .i64 a1_0, .int .i64 a1_1]) (t := 90) ?hr ?_; (case hd => rfl); (case hg => rfl); (case hr => first | (go_simp; done) | (go_simp; rfl)); intro gb103 hg w34 hbox hb; have BK103 := Aside0.mk (hbox); have GW103 := Aside0.mk ((by rw [hg]; exact (below_size (bq1_ HB.out GE102.out)) : w.heap.size ≤ gb103)); have GE103 := Aside0.mk ((by rw [hg]; exact (below_size (bq1_ HB.out GE102.out)) : w.heap.size ≤ gb103)); have NB102_103 := Aside0.mk ((by rw [hg]; exact Nat.ne_of_lt (blk_lt (g := gb102) (o := .cells #[.int .i64 a0_0, .slice A0_1 l0_1.length c0_1, .slice A0_2 l0_2.length c0_2] 48 (0, 0)) (mvK_ BK102.out)) : gb102 ≠ gb103)); have NB103_102 := Aside0.mk ((by rw [hg]; exact Nat.ne_of_gt (blk_lt (g := gb102) (o := .cells #[.int .i64 a0_0, .slice A0_1 l0_1.length c0_1, .slice A0_2 l0_2.length c0_2] 48 (0, 0)) (mvK_ BK102.out)) : gb103 ≠ gb102)); replace BK102 := mvB_ BK102.out hb; replace HB := Aside0.mk (below_step (bq1_ HB.out GE102.out) hb); clear hb hbox hg; have hnb35 := NB102_103.out; have hnc35 := NB103_102.out; have hcz36_0 := cz0_ BK102.out; have hcz36_1 := cz1_ BK102.out; have hcz36_2 := cz2_ BK102.out; have hfz36_0 := blk_frozen BK102.out 0; have hfz36_1 := blk_frozen BK102.out 1; have hfz36_2 := blk_frozen BK102.out 2; have hcz37_0 := cz0_ BK103.out; have hcz37_1 := cz1_ BK103.out; have hfz37_0 := blk_frozen BK103.out 0; have hfz37_1 := blk_frozen BK103.out 1) | ((with_reducible refine gate_callee (f := 59) rfl ?_); refine gL_ (some 32) Try.func59 #[.slice A0_2 l0_2.length c0_2] ?_; (with_reducible refine (shape_Check.calls k _ _ l0_2 t108 _ ?side1 ?side2 A32.out).mono ?_); (case side1 => exact mvC_ ((Kd.C_below HR0_2.out HB.out))); (case side2 => exact HC0_2.out); rintro e w' ⟨rfl, ⟨nd, rfl⟩⟩; refine ⟨_, rfl, ?_⟩))
   go_ret
   exact ⟨by first | rfl | (simp <;> rfl) | (simp [*] <;> rfl), bq2_ HB.out GE102.out GE103.out⟩
  ·rw [if_neg c31] at H
   have c31b0 : (a1_1 == (-1)) = false := beq_eq_false_iff_ne.mpr c31
   have c31b1 : (a1_1 != (-1)) = true := bne_iff_ne.mpr c31
   obtain rfl := Option.some.inj H
   go_enter Try.func55, Try.ntmps55
   go_wp2_with (first | ((with_reducible refine gate_dst (N := 2) rfl ?_); refine box_event ?hg (N := 2) ?hd (cs := #[.int .i64 a0_0, .slice A0_1 l0_1.length c0_1, .slice A0_2 l0_2.length c0_2]) (t := 48) ?hr ?_; (case hd => rfl); (case hg => rfl); (case hr => first | (go_simp; done) | (go_simp; rfl)); intro gb102 hg w38 hbox hb; have BK102 := Aside0.mk (hbox); have GW102 := Aside0.mk ((by rw [hg]; exact (below_size (bq0_ HB.out)) : w.heap.size ≤ gb102)); have GE102 := Aside0.mk ((by rw [hg]; exact (below_size (bq0_ HB.out)) : w.heap.size ≤ gb102)); replace HB := Aside0.mk (below_step (bq0_ HB.out) hb); clear hb hbox hg) | ((with_reducible refine gate_dst (N := 3) rfl ?_); refine box_event ?hg (N := 3) ?hd (cs := #[.int .i64 a1_0, .int .i64 a1_1]) (t := 90) ?hr ?_; (case hd => rfl); (case hg => rfl); (case hr => first | (go_simp; done) | (go_simp; rfl)); intro gb103 hg w39 hbox hb; have BK103 := Aside0.mk (hbox); have GW103 := Aside0.mk ((by rw [hg]; exact (below_size (bq1_ HB.out GE102.out)) : w.heap.size ≤ gb103)); have GE103 := Aside0.mk ((by rw [hg]; exact (below_size (bq1_ HB.out GE102.out)) : w.heap.size ≤ gb103)); have NB102_103 := Aside0.mk ((by rw [hg]; exact Nat.ne_of_lt (blk_lt (g := gb102) (o := .cells #[.int .i64 a0_0, .slice A0_1 l0_1.length c0_1, .slice A0_2 l0_2.length c0_2] 48 (0, 0)) (mvK_ BK102.out)) : gb102 ≠ gb103)); have NB103_102 := Aside0.mk ((by rw [hg]; exact Nat.ne_of_gt (blk_lt (g := gb102) (o := .cells #[.int .i64 a0_0, .slice A0_1 l0_1.length c0_1, .slice A0_2 l0_2.length c0_2] 48 (0, 0)) (mvK_ BK102.out)) : gb103 ≠ gb102)); replace BK102 := mvB_ BK102.out hb; replace HB := Aside0.mk (below_step (bq1_ HB.out GE102.out) hb); clear hb hbox hg; have hnb40 := NB102_103.out; have hnc40 := NB103_102.out; have hcz41_0 := cz0_ BK102.out; have hcz41_1 := cz1_ BK102.out; have hcz41_2 := cz2_ BK102.out; have hfz41_0 := blk_frozen BK102.out 0; have hfz41_1 := blk_frozen BK102.out 1; have hfz41_2 := blk_frozen BK102.out 2; have hcz42_0 := cz0_ BK103.out; have hcz42_1 := cz1_ BK103.out; have hfz42_0 := blk_frozen BK103.out 0; have hfz42_1 := blk_frozen BK103.out 1))
   go_ret
   exact ⟨by first | rfl | (simp <;> rfl) | (simp [*] <;> rfl), bq2_ HB.out GE102.out GE103.out⟩
set_option maxHeartbeats 8000000 in
set_option maxRecDepth 100000 in
theorem slices_IndexFunc_int_int.by_ (q : Int → Bool) (g : Nat) (lb : Array Value) (A0 : Option Addr) (c0 : Nat) (l0 : List (Int)) (w : World) (hr0 : Kd.C (Kd.int .i64) w A0 l0.length l0)
    (eg : ∀ args W, (callFunc g args).run Try.prog W = .ok (.enter g args) W)
    (hp : ∀ (W : World) (x : Int), x ∈ l0 → Below w.heap.size w W → Calls Try.prog g (#[.int .i64 x] ++ lb) W fun e w' => e = .returned (.bool (q x)) ∧ Below W.heap.size W w') :
    Calls Try.prog 79 #[.slice A0 l0.length c0, .func (.func g) #[] lb] w fun e w' => e = .returned (.int .i64 (idxF q 0 l0)) ∧ Below w.heap.size w w' := by
  have HR := Aside0.mk hr0
  have hbig := hr0.2.1
  clear hr0
  go_enter Try.func79, Try.ntmps79
  go_wp2
  go_loopg [5, 8] l0.length (fun gg _ s8 wr => ∃ kk : Nat, kk ≤ l0.length ∧ l0.length - kk ≤ gg ∧ s8 = .int .i64 kk ∧ Aside0 (Below w.heap.size w wr) ∧ Aside0 (∀ (j : Nat) (y : Int), j < kk → l0[j]? = some y → q y = false))
  case atStart => exact ⟨0, Nat.zero_le _, by omega, rfl, ⟨Below.refl _ w⟩, ⟨fun j y hj => absurd hj (Nat.not_lt_zero _)⟩⟩
  case round =>
    obtain ⟨kk, hkk, hg, rfl, BW, AA⟩ := hrel
    by_cases hlt : kk < l0.length
    · have hltz : (kk : Int) < (l0.length : Int) := by omega
      obtain ⟨ad, rfl, hx0⟩ := Kd.at_int (Kd.C_below HR.out BW.out) (kk : Int) (by omega) hltz
      have hE := show l0[kk]? = some (rd l0 (kk : Int)) by simp [rd, hlt]
      have hcall := hp wr (rd l0 (kk : Int)) (List.mem_of_getElem? hE) BW.out
      have HE := Aside0.mk hE
      clear hp hE
      (try simp only [Int.toNat_natCast] at hx0)
      generalize rd l0 (kk : Int) = y at hx0 hcall HE
      cases hq : q y with
      | true =>
        have HQ := Aside0.mk hq
        rw [hq] at hcall
        have HCALL := Aside0.mk hcall
        clear hq hcall
        go_wp2_with fail
        refine HCALL.out.mono ?_
        rintro e w' ⟨rfl, hb⟩
        have hb' := Aside0.mk hb
        clear hb HCALL
        go_wp2
        go_ret
        refine ⟨?_, below_step BW.out hb'.out⟩
        rw [idxF_hit q l0 0 kk y HE.out HQ.out AA.out, Nat.zero_add]
        rfl
      | false =>
        have HQ := Aside0.mk hq
        rw [hq] at hcall
        have HCALL := Aside0.mk hcall
        clear hq hcall
        go_wp2_with fail
        refine HCALL.out.mono ?_
        rintro e w' ⟨rfl, hb⟩
        have hb' := Aside0.mk hb
        clear hb HCALL
        go_wp2
        go_roundg (l0.length - (kk + 1))
        case measure => omega
        case rel =>
          refine ⟨kk + 1, by omega, by omega, by go_num, ⟨below_step BW.out hb'.out⟩, ⟨fun j z hj hz => ?_⟩⟩
          by_cases e : j = kk
          · subst e
            rw [HE.out] at hz
            cases hz
            exact HQ.out
          · exact AA.out j z (by omega) hz
    · have hltz : ¬ (kk : Int) < (l0.length : Int) := by omega
      have hkl : kk = l0.length := by omega
      have HK := Aside0.mk hkl
      clear hkl
      go_wp2
      go_ret
      refine ⟨?_, BW.out⟩
      rw [idxF_miss q l0 0 (fun j y hy => AA.out j y (by have := (List.getElem?_eq_some_iff.1 hy).1; have := HK.out; omega) hy)]
      rfl
set_option maxHeartbeats 8000000 in
set_option maxRecDepth 100000 in
theorem slices_ContainsFunc_int_int.by_ (q : Int → Bool) (g : Nat) (lb : Array Value) (A0 : Option Addr) (c0 : Nat) (l0 : List (Int)) (w : World) (hr0 : Kd.C (Kd.int .i64) w A0 l0.length l0)
    (eg : ∀ args W, (callFunc g args).run Try.prog W = .ok (.enter g args) W)
    (hp : ∀ (W : World) (x : Int), x ∈ l0 → Below w.heap.size w W → Calls Try.prog g (#[.int .i64 x] ++ lb) W fun e w' => e = .returned (.bool (q x)) ∧ Below W.heap.size W w') :
    Calls Try.prog 56 #[.slice A0 l0.length c0, .func (.func g) #[] lb] w fun e w' => e = .returned (.bool (l0.any q)) ∧ Below w.heap.size w w' := by
  have HR := Aside0.mk hr0
  have HP := Aside0.mk hp
  have HA := Aside0.mk (idxF_any q l0 0)
  clear hr0 hp
  go_enter Try.func56, Try.ntmps56
  go_wp2_with (go_at_call 79; (with_reducible refine (slices_IndexFunc_int_int.by_ q g lb A0 c0 l0 _ HR.out eg HP.out).mono ?_); rintro e w' ⟨rfl, hb⟩; have HB := Aside0.mk hb; clear hb)
  go_ret
  exact ⟨by rw [← HA.out]; rfl, HB.out⟩
def graph_name.f (a0_0 : Int) (l0_1 : List Int) (l0_2 : List Int) : Option (Int × Bool) := if a0_0 = 1 then (some ((-1), true)) else (if a0_0 = 2 then (if 0 < (l0_2.length : Int) then (some (rd l0_2 0, true)) else (none)) else (some (0, false)))
set_option maxHeartbeats 8000000 in
set_option maxRecDepth 100000 in
theorem graph_name.calls (a0_0 : Int) (A0_1 : Option Addr) (c0_1 : Nat) (l0_1 : List Int) (A0_2 : Option Addr) (c0_2 : Nat) (l0_2 : List Int) (r1 : Int) (r2 : Bool) (w : World) (hr0_1 : Kd.C (Kd.int .i64) w A0_1 l0_1.length l0_1) (hc0_1 : l0_1.length ≤ c0_1) (hr0_2 : Kd.C (Kd.int .i64) w A0_2 l0_2.length l0_2) (hc0_2 : l0_2.length ≤ c0_2) (h : graph_name.f a0_0 l0_1 l0_2 = some (r1, r2)) :
    Calls Try.prog 57 #[.agg #[.int .i64 a0_0, .slice A0_1 l0_1.length c0_1, .slice A0_2 l0_2.length c0_2]] w fun e w' => e = .returned (.tuple #[.int .i64 r1, .bool r2]) ∧ Below w.heap.size w w' := by
  have hu48 := Try.underlying48
  have HR0_1 := Aside0.mk hr0_1
  have HC0_1 := Aside0.mk hc0_1
  clear hr0_1 hc0_1
  have HR0_2 := Aside0.mk hr0_2
  have HC0_2 := Aside0.mk hc0_2
  clear hr0_2 hc0_2
  have HB := Aside0.mk (Below.refl w.heap.size w)
  have H : (if a0_0 = 1 then (some ((-1), true)) else (if a0_0 = 2 then (if 0 < (l0_2.length : Int) then (some (rd l0_2 0, true)) else (none)) else (some (0, false)))) = some (r1, r2) := h
  clear h
  by_cases c2 : a0_0 = 1
  · rw [if_pos c2] at H
    obtain ⟨c2b0, c2b1⟩ := eqT_ c2
    clear c2
    simp only [Option.some.injEq, Prod.mk.injEq] at H
    obtain ⟨rfl, rfl⟩ := H
    go_enter Try.func57, Try.ntmps57
    go_wp2_with (first | ((with_reducible refine gate_dst (N := 1) rfl ?_); refine box_event ?hg (N := 1) ?hd (cs := #[.int .i64 a0_0, .slice A0_1 l0_1.length c0_1, .slice A0_2 l0_2.length c0_2]) (t := 48) ?hr ?_; (case hd => rfl); (case hg => rfl); (case hr => first | (go_simp; done) | (go_simp; rfl)); intro gb109 hg w3 hbox hb; have BK109 := Aside0.mk (hbox); have GW109 := Aside0.mk ((by rw [hg]; exact (below_size (bq0_ HB.out)) : w.heap.size ≤ gb109)); have GE109 := Aside0.mk ((by rw [hg]; exact (below_size (bq0_ HB.out)) : w.heap.size ≤ gb109)); replace HB := Aside0.mk (below_step (bq0_ HB.out) hb); clear hb hbox hg; have hcz4_0 := cz0_ BK109.out; have hcz4_1 := cz1_ BK109.out; have hcz4_2 := cz2_ BK109.out; have hfz4_0 := blk_frozen BK109.out 0; have hfz4_1 := blk_frozen BK109.out 1; have hfz4_2 := blk_frozen BK109.out 2))
    go_ret2
    exact ⟨by first | rfl | (simp <;> rfl) | (simp [*] <;> rfl), bq1_ HB.out GE109.out⟩
  · rw [if_neg c2] at H
    have c2b0 : (a0_0 == 1) = false := beq_eq_false_iff_ne.mpr c2
    have c2b1 : (a0_0 != 1) = true := bne_iff_ne.mpr c2
    by_cases c5 : a0_0 = 2
    · rw [if_pos c5] at H
      obtain ⟨c5b0, c5b1⟩ := eqT_ c5
      clear c5
      by_cases c6 : 0 < (l0_2.length : Int)
      · rw [if_pos c6] at H
        have c6b0 : decide (0 < (l0_2.length : Int)) = true := decide_eq_true c6
        have c6b1 : decide (0 < l0_2.length) = true := decide_eq_true (by omega)
        clear c6
        simp only [Option.some.injEq, Prod.mk.injEq] at H
        obtain ⟨rfl, rfl⟩ := H
        go_enter Try.func57, Try.ntmps57
        go_wp2_with (first | ((with_reducible refine gate_dst (N := 1) rfl ?_); refine box_event ?hg (N := 1) ?hd (cs := #[.int .i64 a0_0, .slice A0_1 l0_1.length c0_1, .slice A0_2 l0_2.length c0_2]) (t := 48) ?hr ?_; (case hd => rfl); (case hg => rfl); (case hr => first | (go_simp; done) | (go_simp; rfl)); intro gb109 hg w7 hbox hb; have BK109 := Aside0.mk (hbox); have GW109 := Aside0.mk ((by rw [hg]; exact (below_size (bq0_ HB.out)) : w.heap.size ≤ gb109)); have GE109 := Aside0.mk ((by rw [hg]; exact (below_size (bq0_ HB.out)) : w.heap.size ≤ gb109)); replace HB := Aside0.mk (below_step (bq0_ HB.out) hb); clear hb hbox hg; have hcz8_0 := cz0_ BK109.out; have hcz8_1 := cz1_ BK109.out; have hcz8_2 := cz2_ BK109.out; have hfz8_0 := blk_frozen BK109.out 0; have hfz8_1 := blk_frozen BK109.out 1; have hfz8_2 := blk_frozen BK109.out 2; have p110 : 0 ≤ (0 : Int) := (by omega); have q110 : 0 < (l0_2.length : Int) := of_decide_eq_true (by first | (with_reducible assumption) | assumption); obtain ⟨ad110, e110, hx110_0⟩ := Kd.at_int HR0_2.out 0 p110 q110; cases e110; have qi110 : (0 < l0_2.length) = True := eq_true (by omega); (try rw [show ((0 : Int)).toNat = 0 from rfl] at hx110_0); (try rw [Addr.add_zero'] at hx110_0); replace hx110_0 := hb_ HB hx110_0; replace p110 := eq_true p110; replace q110 := eq_true q110))
        go_ret2
        exact ⟨by first | rfl | (simp <;> rfl) | (simp [*] <;> rfl), bq1_ HB.out GE109.out⟩
      · rw [if_neg c6] at H
        exact absurd H (by simp)
    · rw [if_neg c5] at H
      have c5b0 : (a0_0 == 2) = false := beq_eq_false_iff_ne.mpr c5
      have c5b1 : (a0_0 != 2) = true := bne_iff_ne.mpr c5
      simp only [Option.some.injEq, Prod.mk.injEq] at H
      obtain ⟨rfl, rfl⟩ := H
      go_enter Try.func57, Try.ntmps57
      go_wp2_with (first | ((with_reducible refine gate_dst (N := 1) rfl ?_); refine box_event ?hg (N := 1) ?hd (cs := #[.int .i64 a0_0, .slice A0_1 l0_1.length c0_1, .slice A0_2 l0_2.length c0_2]) (t := 48) ?hr ?_; (case hd => rfl); (case hg => rfl); (case hr => first | (go_simp; done) | (go_simp; rfl)); intro gb109 hg w9 hbox hb; have BK109 := Aside0.mk (hbox); have GW109 := Aside0.mk ((by rw [hg]; exact (below_size (bq0_ HB.out)) : w.heap.size ≤ gb109)); have GE109 := Aside0.mk ((by rw [hg]; exact (below_size (bq0_ HB.out)) : w.heap.size ≤ gb109)); replace HB := Aside0.mk (below_step (bq0_ HB.out) hb); clear hb hbox hg; have hcz10_0 := cz0_ BK109.out; have hcz10_1 := cz1_ BK109.out; have hcz10_2 := cz2_ BK109.out; have hfz10_0 := blk_frozen BK109.out 0; have hfz10_1 := blk_frozen BK109.out 1; have hfz10_2 := blk_frozen BK109.out 2))
      go_ret2
      exact ⟨by first | rfl | (simp <;> rfl) | (simp [*] <;> rfl), bq1_ HB.out GE109.out⟩
def slices_Equal_int_int.l0 : Nat → List Int → List Int → Int → Int → Option (Bool)
  | 0, _, _, _, _ => none
  | k + 1, x0, x1, x12, x13 => if x13 < x12 then (if 0 ≤ x13 then (if x13 < (x0.length : Int) then (if x13 < (x1.length : Int) then (if (rd x0 x13) = (rd x1 x13) then (slices_Equal_int_int.l0 k x0 x1 x12 (wrap64 (x13 + 1))) else (some false)) else (none)) else (none)) else (none)) else (some true)
def slices_Equal_int_int.f (k : Nat) (l0 : List Int) (l1 : List Int) : Option (Bool) := if (l0.length : Int) = (l1.length : Int) then (slices_Equal_int_int.l0 k l0 l1 (l0.length : Int) 0) else (some false)
set_option maxHeartbeats 8000000 in
set_option maxRecDepth 100000 in
theorem slices_Equal_int_int.calls (k : Nat) (A0 : Option Addr) (c0 : Nat) (l0 : List Int) (A1 : Option Addr) (c1 : Nat) (l1 : List Int) (r : Bool) (w : World) (hr0 : Kd.C (Kd.int .i64) w A0 l0.length l0) (hc0 : l0.length ≤ c0) (hr1 : Kd.C (Kd.int .i64) w A1 l1.length l1) (hc1 : l1.length ≤ c1) (h : slices_Equal_int_int.f k l0 l1 = some r) :
    Calls Try.prog 58 #[.slice A0 l0.length c0, .slice A1 l1.length c1] w fun e w' => e = .returned (.bool r) ∧ Drawn0 w w' := by
  have HR0 := Aside0.mk hr0
  have HC0 := Aside0.mk hc0
  clear hr0 hc0
  have HR1 := Aside0.mk hr1
  have HC1 := Aside0.mk hc1
  clear hr1 hc1
  have H : (if (l0.length : Int) = (l1.length : Int) then (slices_Equal_int_int.l0 k l0 l1 (l0.length : Int) 0) else (some false)) = some r := h
  clear h
  by_cases c3 : (l0.length : Int) = (l1.length : Int)
  · rw [if_pos c3] at H
    have c3b0 : ((l0.length : Int) == (l1.length : Int)) = true := beq_iff_eq.mpr c3
    have c3b1 : ((l0.length : Int) != (l1.length : Int)) = false := bne_eq_false_iff_eq.mpr c3
    have c3b2 : (l0.length == l1.length) = true := by first | simpa using c3 | (simp at c3 ⊢; omega)
    clear c3
    have H' := Aside0.mk H
    clear H
    go_enter Try.func58, Try.ntmps58
    go_wp2
    repeat (go_quiet (fail); try go_wp2)
    go_loopg [13] k (fun kq v13 w' => ∃ (x13_1 : Int), v13 = .int .i64 x13_1 ∧ Aside0 (slices_Equal_int_int.l0 kq l0 l1 (l0.length : Int) x13_1 = some r) ∧ Aside0 (kq ≤ k) ∧ Drawn0 w w')
    case atStart => exact ⟨(0), (by first | rfl | (simp; done) | (simp [*]; done)), H', ⟨Nat.le_refl _⟩, by repeat (first | exact Drawn0.refl _ | apply Drawn0.step)⟩
    case round =>
      clear H'
      try clear c1
      try clear p2
      try clear c3
      try clear c3b0
      try clear c3b1
      try clear c3b2
      obtain ⟨x13_1, rfl, HA, HK1, ⟨m1, rfl⟩⟩ := hrel
      cases gk with
      | zero => exact absurd HA.out (by simp [slices_Equal_int_int.l0])
      | succ k1 =>
        have H := HA.out
        clear HA
        simp only [slices_Equal_int_int.l0] at H
        by_cases c4 : x13_1 < (l0.length : Int)
        · rw [if_pos c4] at H
          have c4b0 : decide (x13_1 < (l0.length : Int)) = true := decide_eq_true c4
          clear c4
          by_cases c5 : 0 ≤ x13_1
          · rw [if_pos c5] at H
            have c5b0 : decide (0 ≤ x13_1) = true := decide_eq_true c5
            clear c5
            by_cases c6 : x13_1 < (l0.length : Int)
            · rw [if_pos c6] at H
              have c6b0 : decide (x13_1 < (l0.length : Int)) = true := decide_eq_true c6
              clear c6
              by_cases c7 : x13_1 < (l1.length : Int)
              · rw [if_pos c7] at H
                have c7b0 : decide (x13_1 < (l1.length : Int)) = true := decide_eq_true c7
                clear c7
                by_cases c8 : (rd l0 x13_1) = (rd l1 x13_1)
                · rw [if_pos c8] at H
                  obtain ⟨c8b0, c8b1⟩ := eqT_ c8
                  clear c8
                  have H' := Aside0.mk H
                  clear H
                  have p111 : 0 ≤ (x13_1 : Int) := of_decide_eq_true (by first | (with_reducible assumption) | assumption)
                  have q111 : x13_1 < (l0.length : Int) := of_decide_eq_true (by first | (with_reducible assumption) | assumption)
                  obtain ⟨ad111, e111, hx111_0⟩ := Kd.at_int HR0.out x13_1 p111 q111
                  cases e111
                  replace p111 := eq_true p111
                  replace q111 := eq_true q111
                  have p112 : 0 ≤ (x13_1 : Int) := of_decide_eq_true (by first | (with_reducible assumption) | assumption)
                  have q112 : x13_1 < (l1.length : Int) := of_decide_eq_true (by first | (with_reducible assumption) | assumption)
                  obtain ⟨ad112, e112, hx112_0⟩ := Kd.at_int HR1.out x13_1 p112 q112
                  cases e112
                  replace p112 := eq_true p112
                  replace q112 := eq_true q112
                  go_wp2
                  repeat (go_quiet (fail); try go_wp2)
                  go_roundg k1
                  case measure => have := HK1.out; omega
                  case rel => exact ⟨(wrap64 (x13_1 + 1)), (by first | rfl | (simp; done) | (simp [*]; done)), H', ⟨by have := HK1.out; omega⟩, by repeat (first | exact Drawn0.refl _ | apply Drawn0.step)⟩
                · rw [if_neg c8] at H
                  have c8b0 : ((rd l0 x13_1) == (rd l1 x13_1)) = false := beq_eq_false_iff_ne.mpr c8
                  have c8b1 : ((rd l0 x13_1) != (rd l1 x13_1)) = true := bne_iff_ne.mpr c8
                  obtain rfl := Option.some.inj H
                  have p111 : 0 ≤ (x13_1 : Int) := of_decide_eq_true (by first | (with_reducible assumption) | assumption)
                  have q111 : x13_1 < (l0.length : Int) := of_decide_eq_true (by first | (with_reducible assumption) | assumption)
                  obtain ⟨ad111, e111, hx111_0⟩ := Kd.at_int HR0.out x13_1 p111 q111
                  cases e111
                  replace p111 := eq_true p111
                  replace q111 := eq_true q111
                  have p112 : 0 ≤ (x13_1 : Int) := of_decide_eq_true (by first | (with_reducible assumption) | assumption)
                  have q112 : x13_1 < (l1.length : Int) := of_decide_eq_true (by first | (with_reducible assumption) | assumption)
                  obtain ⟨ad112, e112, hx112_0⟩ := Kd.at_int HR1.out x13_1 p112 q112
                  cases e112
                  replace p112 := eq_true p112
                  replace q112 := eq_true q112
                  go_wp2
                  repeat (go_quiet (fail); try go_wp2)
                  go_ret
                  exact ⟨by first | rfl | (simp; done) | (simp [*]; done), by repeat (first | exact Drawn0.refl _ | apply Drawn0.step)⟩
              · rw [if_neg c7] at H
                exact absurd H (by simp)
            · rw [if_neg c6] at H
              exact absurd H (by simp)
          · rw [if_neg c5] at H
            exact absurd H (by simp)
        · rw [if_neg c4] at H
          have c4b0 : decide (x13_1 < (l0.length : Int)) = false := decide_eq_false c4
          clear c4
          obtain rfl := Option.some.inj H
          go_wp2
          repeat (go_quiet (fail); try go_wp2)
          go_ret
          exact ⟨by first | rfl | (simp; done) | (simp [*]; done), by repeat (first | exact Drawn0.refl _ | apply Drawn0.step)⟩
  · rw [if_neg c3] at H
    have c3b0 : ((l0.length : Int) == (l1.length : Int)) = false := beq_eq_false_iff_ne.mpr c3
    have c3b1 : ((l0.length : Int) != (l1.length : Int)) = true := bne_iff_ne.mpr c3
    have c3b2 : (l0.length == l1.length) = false := by first | simpa using c3 | (simp at c3 ⊢; omega)
    obtain rfl := Option.some.inj H
    go_enter Try.func58, Try.ntmps58
    go_wp2
    repeat (go_quiet (fail); try go_wp2)
    go_ret
    exact ⟨by first | rfl | (simp; done) | (simp [*]; done), by repeat (first | exact Drawn0.refl _ | apply Drawn0.step)⟩
end Go.Proofs.Ytjcgadfmhfhbgaa.A
