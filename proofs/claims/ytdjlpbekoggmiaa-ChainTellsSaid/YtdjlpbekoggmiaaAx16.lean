/- Lean functions that answer as the Go functions do, and the proofs that they do; no conditions. Written by this session's own driver: a scratch copy of the kit's print with the session's additions (wip/xprint). -/
import Derived.Test.YtdjlpbekoggmiaaAx0
import Derived.Test.YtdjlpbekoggmiaaAx15
namespace Go.Proofs.Ytdjlpbekoggmiaa.A
open Go.RowKit Go.Proofs.YtdjlpbekoggmiaaW.PrintWords Go.Proofs.YtdjlpbekoggmiaaW.PrintLast Go.Proofs.YtdjlpbekoggmiaaW.PrintMore
attribute [local go_sem] max2_int min2_int max_two min_two max_three min_three max_four min_four   -- for this text's walks alone
set_option linter.unusedVariables false
set_option linter.unusedSimpArgs false

/-! ### fullerref17_at: function 26 -/
def fullerref17_at.l0 : Nat → List (S41) → Int → Int → Int → Option (Int)
  | 0, _, _, _, _ => none
  | k + 1, x0, x1, x5, x6 => if x6 < (x0.length : Int) then (if 0 ≤ x6 then (if ((rd_T41 x0 x6).f0) ≤ x1 then (fullerref17_at.l0 k x0 x1 x6 (wrap64 (x6 + 1))) else (fullerref17_at.l0 k x0 x1 x5 (wrap64 (x6 + 1)))) else (none)) else (some x5)
def fullerref17_at.f (k : Nat) (l0 : List (S41)) (a1 : Int) : Option (Int) := fullerref17_at.l0 k l0 a1 (-1) 0
theorem fullerref17_at.mono_l : ∀ k, (∀ y0 y1 y2 y3, LeO (fullerref17_at.l0 k y0 y1 y2 y3) (fullerref17_at.l0 (k + 1) y0 y1 y2 y3))
  | 0 => fun _ _ _ _ r h => by simp [fullerref17_at.l0] at h
  | k + 1 => by
    have ih0 := fullerref17_at.mono_l k
    · intro y0 y1 y2 y3
      unfold fullerref17_at.l0
      repeat' first
      | (with_reducible exact ih0 _ _ _ _)
      | (with_reducible exact LeO.refl _)
      | (with_reducible exact LeO.none _)
      | (with_reducible refine LeO.ite ?_ ?_)
      | (with_reducible refine LeO.bind ?_ (fun _ => ?_))
      | exact ih0 _ _ _ _
      | exact LeO.none _
      | refine LeO.ite ?_ ?_
      | refine LeO.bind ?_ (fun _ => ?_)
theorem fullerref17_at.mono : ∀ a0 a1 k, LeO (fullerref17_at.f k a0 a1) (fullerref17_at.f (k + 1) a0 a1) := by
  intro a0 a1 k
  have ih0 := fullerref17_at.mono_l k
  unfold fullerref17_at.f
  repeat' first
      | (with_reducible exact ih0 _ _ _ _)
      | (with_reducible exact LeO.refl _)
      | (with_reducible exact LeO.none _)
      | (with_reducible refine LeO.ite ?_ ?_)
      | (with_reducible refine LeO.bind ?_ (fun _ => ?_))
      | exact ih0 _ _ _ _
      | exact LeO.none _
      | refine LeO.ite ?_ ?_
      | refine LeO.bind ?_ (fun _ => ?_)
set_option maxHeartbeats 8000000 in
set_option maxRecDepth 100000 in
theorem fullerref17_at.calls (k : Nat) (A0 : Option Addr) (c0 : Nat) (l0 : List (S41)) (a1 : Int) (r : Int) (w : World) (hr0 : Kd.C k41 w A0 l0.length l0) (hc0 : l0.length ≤ c0) (h : fullerref17_at.f k l0 a1 = some r) :
    Calls Try.prog 26 #[.slice A0 l0.length c0, .int .i64 a1] w fun e w' => e = .returned (.int .i64 r) ∧ Drawn0 w w' := by
  have HR0 := Aside0.mk hr0
  have HC0 := Aside0.mk hc0
  clear hr0 hc0
  have H : (fullerref17_at.l0 k l0 a1 (-1) 0) = some r := h
  clear h
  have H' := Aside0.mk H
  clear H
  go_enter Try.func26, Try.ntmps26
  go_wp2
  go_loopg [5, 6] k (fun kq v5 v6 w' => ∃ (x5_1 : Int) (x6_1 : Int), v5 = .int .i64 x5_1 ∧ v6 = .int .i64 x6_1 ∧ Aside0 (fullerref17_at.l0 kq l0 a1 x5_1 x6_1 = some r) ∧ Aside0 (kq ≤ k) ∧ Drawn0 w w')
  case atStart => exact ⟨((-1)), (0), (by first | rfl | (simp; done) | (simp [*]; done)), (by first | rfl | (simp; done) | (simp [*]; done)), H', ⟨Nat.le_refl _⟩, by repeat (first | exact Drawn0.refl _ | apply Drawn0.step)⟩
  case round =>
    clear H'
    try clear c2
    try clear p2
    obtain ⟨x5_1, x6_1, rfl, rfl, HA, HK1, ⟨m1, rfl⟩⟩ := hrel
    cases gk with
    | zero => exact absurd HA.out (by simp [fullerref17_at.l0])
    | succ k1 =>
      have H := HA.out
      clear HA
      simp only [fullerref17_at.l0] at H
      by_cases c3 : x6_1 < (l0.length : Int)
      · rw [if_pos c3] at H
        have c3b0 : decide (x6_1 < (l0.length : Int)) = true := decide_eq_true c3
        clear c3
        by_cases c4 : 0 ≤ x6_1
        · rw [if_pos c4] at H
          have c4b0 : decide (0 ≤ x6_1) = true := decide_eq_true c4
          clear c4
          by_cases c5 : ((rd_T41 l0 x6_1).f0) ≤ a1
          · rw [if_pos c5] at H
            have c5b0 : decide (((rd_T41 l0 x6_1).f0) ≤ a1) = true := decide_eq_true c5
            clear c5
            have H' := Aside0.mk H
            clear H
            have p246 : 0 ≤ (x6_1 : Int) := of_decide_eq_true (by first | (with_reducible assumption) | assumption)
            have q246 : x6_1 < (l0.length : Int) := of_decide_eq_true (by first | (with_reducible assumption) | assumption)
            obtain ⟨ad246, A246_1, c246_1, A246_2, c246_2, e246, hx246_0, hx246_1, hx246_2, hl246_1, hi246_1, hl246_2, hi246_2⟩ := at_T41 HR0.out x6_1 p246 q246
            cases e246
            have HR246_1 := Aside0.mk hi246_1
            have HC246_1 := Aside0.mk hl246_1
            clear hi246_1 hl246_1
            have HR246_2 := Aside0.mk hi246_2
            have HC246_2 := Aside0.mk hl246_2
            clear hi246_2 hl246_2
            replace p246 := eq_true p246
            replace q246 := eq_true q246
            go_wp2
            go_roundg k1
            case measure => have := HK1.out; omega
            case rel => exact ⟨(x6_1), (wrap64 (x6_1 + 1)), (by first | rfl | (simp; done) | (simp [*]; done)), (by first | rfl | (simp; done) | (simp [*]; done)), H', ⟨by have := HK1.out; omega⟩, by repeat (first | exact Drawn0.refl _ | apply Drawn0.step)⟩
          · rw [if_neg c5] at H
            have c5b0 : decide (((rd_T41 l0 x6_1).f0) ≤ a1) = false := decide_eq_false c5
            clear c5
            have H' := Aside0.mk H
            clear H
            have p246 : 0 ≤ (x6_1 : Int) := of_decide_eq_true (by first | (with_reducible assumption) | assumption)
            have q246 : x6_1 < (l0.length : Int) := of_decide_eq_true (by first | (with_reducible assumption) | assumption)
            obtain ⟨ad246, A246_1, c246_1, A246_2, c246_2, e246, hx246_0, hx246_1, hx246_2, hl246_1, hi246_1, hl246_2, hi246_2⟩ := at_T41 HR0.out x6_1 p246 q246
            cases e246
            have HR246_1 := Aside0.mk hi246_1
            have HC246_1 := Aside0.mk hl246_1
            clear hi246_1 hl246_1
            have HR246_2 := Aside0.mk hi246_2
            have HC246_2 := Aside0.mk hl246_2
            clear hi246_2 hl246_2
            replace p246 := eq_true p246
            replace q246 := eq_true q246
            go_wp2
            go_roundg k1
            case measure => have := HK1.out; omega
            case rel => exact ⟨(x5_1), (wrap64 (x6_1 + 1)), (by first | rfl | (simp; done) | (simp [*]; done)), (by first | rfl | (simp; done) | (simp [*]; done)), H', ⟨by have := HK1.out; omega⟩, by repeat (first | exact Drawn0.refl _ | apply Drawn0.step)⟩
        · rw [if_neg c4] at H
          exact absurd H (by simp)
      · rw [if_neg c3] at H
        have c3b0 : decide (x6_1 < (l0.length : Int)) = false := decide_eq_false c3
        clear c3
        obtain rfl := Option.some.inj H
        go_wp2
        go_ret
        exact ⟨by first | rfl | (simp; done) | (simp [*]; done), by repeat (first | exact Drawn0.refl _ | apply Drawn0.step)⟩

/-! ### fullerref17_Read: function 12 -/
def fullerref17_Read.f (k : Nat) (l0 : List (S41)) (a1 : Int) : Option (List Int × List Int × Bool) := (fullerref17_Check.f k l0).bind fun t248 => ((fullerref17_at.f k l0 a1).bind fun t249 => (if t248 = true then (if t249 < 0 then (some (([] : List Int), ([] : List Int), false)) else (if 0 ≤ t249 then (if t249 < (l0.length : Int) then (some ((rd_T41 l0 t249).f1.f0, (rd_T41 l0 t249).f1.f1, true)) else (none)) else (none))) else (some (([] : List Int), ([] : List Int), false))))
theorem fullerref17_Read.mono : ∀ a0 a1 k, LeO (fullerref17_Read.f k a0 a1) (fullerref17_Read.f (k + 1) a0 a1) := by
  intro a0 a1 k
  unfold fullerref17_Read.f
  repeat' first
      | (with_reducible exact fullerref17_Check.mono _ _)
      | (with_reducible exact fullerref17_at.mono _ _ _)
      | (with_reducible exact LeO.refl _)
      | (with_reducible exact LeO.none _)
      | (with_reducible refine LeO.ite ?_ ?_)
      | (with_reducible refine LeO.bind ?_ (fun _ => ?_))
      | exact fullerref17_Check.mono _ _
      | exact fullerref17_at.mono _ _ _
      | exact LeO.none _
      | refine LeO.ite ?_ ?_
      | refine LeO.bind ?_ (fun _ => ?_)
set_option maxHeartbeats 8000000 in
set_option maxRecDepth 100000 in
theorem fullerref17_Read.calls (k : Nat) (P0_ : Nat → Prop) (A0 : Option Addr) (c0 : Nat) (l0 : List (S41)) (a1 : Int) (r1 : List Int) (r2 : List Int) (r3 : Bool) (w : World) (hs0 : Kd.V k41 41 w w.heap.size (fun k_ => P0_ k_) (.slice A0 l0.length c0) l0) (h : fullerref17_Read.f k l0 a1 = some (r1, r2, r3)) :
    Calls Try.prog 12 #[.slice A0 l0.length c0, .int .i64 a1] w fun e w' => ∃ v0_ v1_ : Value, e = .returned (.tuple #[.agg #[v0_, v1_], .bool r3]) ∧ Kd.V (Kd.int .i64) 3 w' w.heap.size (fun k_ => (P0_ k_ ∨ w.heap.size ≤ k_)) v0_ r1 ∧ Kd.V (Kd.int .i64) 3 w' w.heap.size (fun k_ => (P0_ k_ ∨ w.heap.size ≤ k_)) v1_ r2 ∧ Below w.heap.size w w' := by
  have hu25 := Try.underlying25
  have HO0 := Aside0.mk (show Kd.V k41 41 w w.heap.size (fun k_ => (P0_ k_ ∨ w.heap.size ≤ k_)) (.slice A0 l0.length c0) l0 from Kd.V_mono hs0 (fun k_ hk => .inl hk))
  have HB := Aside0.mk (Below.refl w.heap.size w)
  have H : ((fullerref17_Check.f k l0).bind fun t248 => ((fullerref17_at.f k l0 a1).bind fun t249 => (if t248 = true then (if t249 < 0 then (some (([] : List Int), ([] : List Int), false)) else (if 0 ≤ t249 then (if t249 < (l0.length : Int) then (some ((rd_T41 l0 t249).f1.f0, (rd_T41 l0 t249).f1.f1, true)) else (none)) else (none))) else (some (([] : List Int), ([] : List Int), false))))) = some (r1, r2, r3) := h
  clear h
  replace H := Option.bind_eq_some_iff.mp H
  obtain ⟨t248, A30, H⟩ := H
  replace H : ((fullerref17_at.f k l0 a1).bind fun t249 => (if t248 = true then (if t249 < 0 then (some (([] : List Int), ([] : List Int), false)) else (if 0 ≤ t249 then (if t249 < (l0.length : Int) then (some ((rd_T41 l0 t249).f1.f0, (rd_T41 l0 t249).f1.f1, true)) else (none)) else (none))) else (some (([] : List Int), ([] : List Int), false)))) = some (r1, r2, r3) := H
  have A3 := Aside0.mk A30
  clear A30
  replace H := Option.bind_eq_some_iff.mp H
  obtain ⟨t249, A40, H⟩ := H
  replace H : (if t248 = true then (if t249 < 0 then (some (([] : List Int), ([] : List Int), false)) else (if 0 ≤ t249 then (if t249 < (l0.length : Int) then (some ((rd_T41 l0 t249).f1.f0, (rd_T41 l0 t249).f1.f1, true)) else (none)) else (none))) else (some (([] : List Int), ([] : List Int), false))) = some (r1, r2, r3) := H
  have A4 := Aside0.mk A40
  clear A40
  by_cases c5 : t248 = true
  · subst c5
    have H1 : (if t249 < 0 then (some (([] : List Int), ([] : List Int), false)) else (if 0 ≤ t249 then (if t249 < (l0.length : Int) then (some ((rd_T41 l0 t249).f1.f0, (rd_T41 l0 t249).f1.f1, true)) else (none)) else (none))) = some (r1, r2, r3) := by rw [if_pos rfl] at H; exact H
    clear H
    have H := H1
    clear H1
    by_cases c6 : t249 < 0
    · rw [if_pos c6] at H
      have c6b0 : decide (t249 < 0) = true := decide_eq_true c6
      clear c6
      simp only [Option.some.injEq, Prod.mk.injEq] at H
      obtain ⟨rfl, rfl, rfl⟩ := H
      go_enter Try.func12, Try.ntmps12
      go_wp2_with (first | ((with_reducible refine gate_dst (N := 4) rfl ?_); refine box_event ?hg (N := 4) ?hd (cs := #[.slice none 0 0, .slice none 0 0]) (t := 25) ?hr ?_; (case hd => rfl); (case hg => rfl); (case hr => first | (go_simp; done) | (go_simp; rfl)); intro gb247 hg w7 hbox hb; have n0_ := Aside0.mk (Kd.V_below (Kd.V_elderB (mvV_ HO0.out) gb247 (Nat.le_of_eq hg.symm)) hb); have n1_ := Aside0.mk (below_step (bq0_ HB.out) hb); have n2_ := Aside0.mk (hbox); have n3_ := Aside0.mk ((by rw [hg]; exact (below_size (bq0_ HB.out)) : w.heap.size ≤ gb247)); have n4_ := Aside0.mk ((by rw [hg]; exact (below_size (bq0_ HB.out)) : w.heap.size ≤ gb247)); clear HO0; clear HB; have HO0 := n0_; have HB := n1_; have BK247 := n2_; have GW247 := n3_; have GE247 := n4_; clear n0_ n1_ n2_ n3_ n4_; clear hb hbox hg) | ((with_reducible refine gate_callee (f := 18) rfl ?_); refine goesL_ (some 9) rfl rfl Try.func18 (by kernel_rfl) rfl #[.slice A0 l0.length c0] rfl (by (try simp only [List.map_toArray, List.map_cons, List.map_nil]); first | done | rfl | (simp only [List.length_drop, List.length_take]; rfl)) ?_; (with_reducible refine (fullerref17_Check.calls k _ _ l0 true _ ?side1 ?side2 A3.out).mono ?_); (case side1 => repeat (first | exact (Kd.V_reads' HO0.out).2.2 | (with_reducible refine Kd.C_alloc ?_ _) | (with_reducible refine Kd.C_drewN ?_ _) | (with_reducible refine Kd.C_drew ?_))); (case side2 => exact (Kd.V_reads' HO0.out).2.1); rintro e w8 ⟨rfl, hb⟩; refine ⟨_, rfl, ?_⟩; have n0_ := Aside0.mk (Kd.V_below (mvV_ HO0.out) hb); have n1_ := Aside0.mk (blk_below (g := gb247) (o := .cells #[.slice none 0 0, .slice none 0 0] 25 (0, 0)) (mvK_ BK247.out) hb); have n2_ := Aside0.mk (below_step (bq1_ HB.out GE247.out) hb); clear HO0; clear BK247; clear HB; have HO0 := n0_; have BK247 := n1_; have HB := n2_; clear n0_ n1_ n2_; (try clear hb); (try clear hb2); (try clear hk); (try clear hi)) | ((with_reducible refine gate_callee (f := 26) rfl ?_); refine goesL_ (some 12) rfl rfl Try.func26 (by kernel_rfl) rfl #[.slice A0 l0.length c0, .int .i64 a1] rfl (by (try simp only [List.map_toArray, List.map_cons, List.map_nil]); first | done | rfl | (simp only [List.length_drop, List.length_take]; rfl)) ?_; (with_reducible refine (fullerref17_at.calls k _ _ l0 a1 t249 _ ?side1 ?side2 A4.out).mono ?_); (case side1 => repeat (first | exact (Kd.V_reads' HO0.out).2.2 | (with_reducible refine Kd.C_alloc ?_ _) | (with_reducible refine Kd.C_drewN ?_ _) | (with_reducible refine Kd.C_drew ?_))); (case side2 => exact (Kd.V_reads' HO0.out).2.1); rintro e w' ⟨rfl, ⟨nd, rfl⟩⟩; refine ⟨_, rfl, ?_⟩; (try (rw [drewN_self w8]; generalize hq_ : World.drewN w8 _ = w8; have n0_ : Aside0 (Kd.V k41 41 w8 w.heap.size (fun k_ => (P0_ k_ ∨ w.heap.size ≤ k_) ∧ k_ ≠ gb247) (.slice A0 l0.length c0) l0) := ⟨by rw [← hq_]; exact (mvV_ HO0.out)⟩; have n1_ : Aside0 (w8.heap[gb247]? = some (.cells #[.slice none 0 0, .slice none 0 0] 25 (0, 0))) := ⟨by rw [← hq_]; exact (mvK_ BK247.out)⟩; have n2_ : Aside0 (Below w.heap.size w w8) := ⟨by rw [← hq_]; exact (bq1_ HB.out GE247.out)⟩; clear HO0 BK247 HB hq_; have HO0 := n0_; have BK247 := n1_; have HB := n2_; clear n0_ n1_ n2_)); have hcz9_0 : w8.cell? ⟨gb247, 0, none⟩ = some (.slice none 0 0) := (blk_cell BK247.out 0).trans rfl; have hcz9_1 : w8.cell? ⟨gb247, 1, none⟩ = some (.slice none 0 0) := (blk_cell BK247.out 1).trans rfl; have hfz9_0 := blk_frozen BK247.out 0; have hfz9_1 := blk_frozen BK247.out 1))
      refine bodyPost_ret (results_ct rfl _ _ gb247 25 #[.slice none 0 0, .slice none 0 0] (0, 0) _ rfl (by (with_reducible repeat (first | refine blk_drewN ?_ _ | refine blk_drew ?_ | refine blk_alloc ?_ _)); refine blk_put (cs := #[.slice none 0 0, .slice none 0 0]) ?_ 1 _ rfl; (with_reducible repeat (first | refine blk_drewN ?_ _ | refine blk_drew ?_ | refine blk_alloc ?_ _)); refine blk_put (cs := #[.slice none 0 0, .slice none 0 0]) ?_ 0 _ rfl; (with_reducible repeat (first | refine blk_drewN ?_ _ | refine blk_drew ?_ | refine blk_alloc ?_ _)); exact BK247.out) Try.underlying25 rfl (by kernel_rfl)) rfl ?_
      exact ⟨_, _, by first | rfl | (simp [errW_none, errW_some] <;> rfl) | (simp [*, errW_none, errW_some] <;> rfl), (Kd.V_nil _ _ _ _ _), (Kd.V_nil _ _ _ _ _), by repeat (first | (with_reducible first | exact HB.out | apply below_alloc | apply pw_below_drewN | apply below_drew1 | refine below_set ?_ GE247.out) | exact HB.out)⟩
    · rw [if_neg c6] at H
      have c6b0 : decide (t249 < 0) = false := decide_eq_false c6
      clear c6
      by_cases c10 : 0 ≤ t249
      · rw [if_pos c10] at H
        have c10b0 : decide (0 ≤ t249) = true := decide_eq_true c10
        clear c10
        by_cases c11 : t249 < (l0.length : Int)
        · rw [if_pos c11] at H
          have c11b0 : decide (t249 < (l0.length : Int)) = true := decide_eq_true c11
          clear c11
          simp only [Option.some.injEq, Prod.mk.injEq] at H
          obtain ⟨rfl, rfl, rfl⟩ := H
          go_enter Try.func12, Try.ntmps12
          go_wp2_with (first | ((with_reducible refine gate_dst (N := 4) rfl ?_); refine box_event ?hg (N := 4) ?hd (cs := #[.slice none 0 0, .slice none 0 0]) (t := 25) ?hr ?_; (case hd => rfl); (case hg => rfl); (case hr => first | (go_simp; done) | (go_simp; rfl)); intro gb247 hg w12 hbox hb; have n0_ := Aside0.mk (Kd.V_below (Kd.V_elderB (mvV_ HO0.out) gb247 (Nat.le_of_eq hg.symm)) hb); have n1_ := Aside0.mk (below_step (bq0_ HB.out) hb); have n2_ := Aside0.mk (hbox); have n3_ := Aside0.mk ((by rw [hg]; exact (below_size (bq0_ HB.out)) : w.heap.size ≤ gb247)); have n4_ := Aside0.mk ((by rw [hg]; exact (below_size (bq0_ HB.out)) : w.heap.size ≤ gb247)); clear HO0; clear HB; have HO0 := n0_; have HB := n1_; have BK247 := n2_; have GW247 := n3_; have GE247 := n4_; clear n0_ n1_ n2_ n3_ n4_; clear hb hbox hg) | ((with_reducible refine gate_callee (f := 18) rfl ?_); refine goesL_ (some 9) rfl rfl Try.func18 (by kernel_rfl) rfl #[.slice A0 l0.length c0] rfl (by (try simp only [List.map_toArray, List.map_cons, List.map_nil]); first | done | rfl | (simp only [List.length_drop, List.length_take]; rfl)) ?_; (with_reducible refine (fullerref17_Check.calls k _ _ l0 true _ ?side1 ?side2 A3.out).mono ?_); (case side1 => repeat (first | exact (Kd.V_reads' HO0.out).2.2 | (with_reducible refine Kd.C_alloc ?_ _) | (with_reducible refine Kd.C_drewN ?_ _) | (with_reducible refine Kd.C_drew ?_))); (case side2 => exact (Kd.V_reads' HO0.out).2.1); rintro e w13 ⟨rfl, hb⟩; refine ⟨_, rfl, ?_⟩; have n0_ := Aside0.mk (Kd.V_below (mvV_ HO0.out) hb); have n1_ := Aside0.mk (blk_below (g := gb247) (o := .cells #[.slice none 0 0, .slice none 0 0] 25 (0, 0)) (mvK_ BK247.out) hb); have n2_ := Aside0.mk (below_step (bq1_ HB.out GE247.out) hb); clear HO0; clear BK247; clear HB; have HO0 := n0_; have BK247 := n1_; have HB := n2_; clear n0_ n1_ n2_; (try clear hb); (try clear hb2); (try clear hk); (try clear hi)) | ((with_reducible refine gate_callee (f := 26) rfl ?_); refine goesL_ (some 12) rfl rfl Try.func26 (by kernel_rfl) rfl #[.slice A0 l0.length c0, .int .i64 a1] rfl (by (try simp only [List.map_toArray, List.map_cons, List.map_nil]); first | done | rfl | (simp only [List.length_drop, List.length_take]; rfl)) ?_; (with_reducible refine (fullerref17_at.calls k _ _ l0 a1 t249 _ ?side1 ?side2 A4.out).mono ?_); (case side1 => repeat (first | exact (Kd.V_reads' HO0.out).2.2 | (with_reducible refine Kd.C_alloc ?_ _) | (with_reducible refine Kd.C_drewN ?_ _) | (with_reducible refine Kd.C_drew ?_))); (case side2 => exact (Kd.V_reads' HO0.out).2.1); rintro e w' ⟨rfl, ⟨nd, rfl⟩⟩; refine ⟨_, rfl, ?_⟩; (try (rw [drewN_self w13]; generalize hq_ : World.drewN w13 _ = w13; have n0_ : Aside0 (Kd.V k41 41 w13 w.heap.size (fun k_ => (P0_ k_ ∨ w.heap.size ≤ k_) ∧ k_ ≠ gb247) (.slice A0 l0.length c0) l0) := ⟨by rw [← hq_]; exact (mvV_ HO0.out)⟩; have n1_ : Aside0 (w13.heap[gb247]? = some (.cells #[.slice none 0 0, .slice none 0 0] 25 (0, 0))) := ⟨by rw [← hq_]; exact (mvK_ BK247.out)⟩; have n2_ : Aside0 (Below w.heap.size w w13) := ⟨by rw [← hq_]; exact (bq1_ HB.out GE247.out)⟩; clear HO0 BK247 HB hq_; have HO0 := n0_; have BK247 := n1_; have HB := n2_; clear n0_ n1_ n2_)); have p250 : 0 ≤ (t249 : Int) := of_decide_eq_true (by first | (with_reducible assumption) | assumption); have q250 : t249 < (l0.length : Int) := of_decide_eq_true (by first | (with_reducible assumption) | assumption); obtain ⟨ad250, A250_1, c250_1, A250_2, c250_2, e250, hx250_0, hx250_1, hx250_2, hl250_1, hi250_1, hl250_2, hi250_2⟩ := at_T41 (Kd.V_reads' HO0.out).2.2 t249 p250 q250; cases e250; obtain ⟨ce250, hce250, hMe250, hcc250⟩ := Kd.V_get HO0.out z41 t249 p250 (by first | exact q250 | exact of_decide_eq_true (by first | (with_reducible assumption) | assumption) | (have e_ := (Kd.V_reads' HO0.out).1; omega)); obtain ⟨ua250_1, uc250_1, ua250_2, uc250_2, rfl, ul250_1, ge250_1, ul250_2, ge250_2⟩ := k41_openF hMe250; have hv250_1 := hcc250 1 _ rfl; rw [add_field _ _ 1 (by omega)] at hv250_1; replace hv250_1 := Option.some.inj (hv250_1.symm.trans hx250_1); injection hv250_1 with hva_ hvn_ hvc_; rw [hva_] at ge250_1; rw [hvc_] at ul250_1; have HL250_1 := Aside0.mk (show Kd.V (Kd.int .i64) 3 _ w.heap.size _ _ ((rd_T41 l0 t249).f1.f0) from Kd.V_mk ul250_1 ge250_1); clear hva_ hvn_ hvc_ ge250_1 ul250_1; have hv250_2 := hcc250 2 _ rfl; rw [add_field _ _ 2 (by omega)] at hv250_2; replace hv250_2 := Option.some.inj (hv250_2.symm.trans hx250_2); injection hv250_2 with hva_ hvn_ hvc_; rw [hva_] at ge250_2; rw [hvc_] at ul250_2; have HL250_2 := Aside0.mk (show Kd.V (Kd.int .i64) 3 _ w.heap.size _ _ ((rd_T41 l0 t249).f1.f1) from Kd.V_mk ul250_2 ge250_2); clear hva_ hvn_ hvc_ ge250_2 ul250_2; clear hcc250 hce250; have HR250_1 := Aside0.mk hi250_1; have HC250_1 := Aside0.mk hl250_1; clear hi250_1 hl250_1; have HR250_2 := Aside0.mk hi250_2; have HC250_2 := Aside0.mk hl250_2; clear hi250_2 hl250_2; replace p250 := eq_true p250; replace q250 := eq_true q250; have hcz14_0 : w13.cell? ⟨gb247, 0, none⟩ = some (.slice none 0 0) := (blk_cell BK247.out 0).trans rfl; have hcz14_1 : w13.cell? ⟨gb247, 1, none⟩ = some (.slice none 0 0) := (blk_cell BK247.out 1).trans rfl; have hfz14_0 := blk_frozen BK247.out 0; have hfz14_1 := blk_frozen BK247.out 1))
          refine bodyPost_ret (results_ct rfl _ _ gb247 25 #[.slice A250_1 ((rd_T41 l0 t249).f1.f0).length c250_1, .slice A250_2 ((rd_T41 l0 t249).f1.f1).length c250_2] (0, 0) _ rfl (by (with_reducible repeat (first | refine blk_drewN ?_ _ | refine blk_drew ?_ | refine blk_alloc ?_ _)); refine blk_put (cs := #[.slice A250_1 ((rd_T41 l0 t249).f1.f0).length c250_1, .slice none 0 0]) ?_ 1 _ rfl; (with_reducible repeat (first | refine blk_drewN ?_ _ | refine blk_drew ?_ | refine blk_alloc ?_ _)); refine blk_put (cs := #[.slice none 0 0, .slice none 0 0]) ?_ 0 _ rfl; (with_reducible repeat (first | refine blk_drewN ?_ _ | refine blk_drew ?_ | refine blk_alloc ?_ _)); exact BK247.out) Try.underlying25 rfl (by kernel_rfl)) rfl ?_
          exact ⟨_, _, by first | rfl | (simp [errW_none, errW_some] <;> rfl) | (simp [*, errW_none, errW_some] <;> rfl), by (with_reducible repeat (first | apply Kd.V_alloc | apply Kd.V_drewN | apply Kd.V_drew)); exact Kd.V_mono (Kd.V_far (p := ⟨gb247, 1, none⟩) (Kd.V_far (p := ⟨gb247, 0, none⟩) (Kd.V_mono HL250_1.out (fun k_ hk => (⟨hk, hk.2⟩ : _ ∧ k_ ≠ gb247))) (fun _ hk => hk.2) (.slice A250_1 ((rd_T41 l0 t249).f1.f0).length c250_1)) (fun _ hk => hk.2) (.slice A250_2 ((rd_T41 l0 t249).f1.f1).length c250_2)) (fun _ hk => hk.1.1), by (with_reducible repeat (first | apply Kd.V_alloc | apply Kd.V_drewN | apply Kd.V_drew)); exact Kd.V_mono (Kd.V_far (p := ⟨gb247, 1, none⟩) (Kd.V_far (p := ⟨gb247, 0, none⟩) (Kd.V_mono HL250_2.out (fun k_ hk => (⟨hk, hk.2⟩ : _ ∧ k_ ≠ gb247))) (fun _ hk => hk.2) (.slice A250_1 ((rd_T41 l0 t249).f1.f0).length c250_1)) (fun _ hk => hk.2) (.slice A250_2 ((rd_T41 l0 t249).f1.f1).length c250_2)) (fun _ hk => hk.1.1), by repeat (first | (with_reducible first | exact HB.out | apply below_alloc | apply pw_below_drewN | apply below_drew1 | refine below_set ?_ GE247.out) | exact HB.out)⟩
        · rw [if_neg c11] at H
          exact absurd H (by simp)
      · rw [if_neg c10] at H
        exact absurd H (by simp)
  · replace c5 := Bool.eq_false_iff.mpr c5
    subst c5
    have H1 : (some (([] : List Int), ([] : List Int), false)) = some (r1, r2, r3) := by rw [if_neg (show ¬ (false = true) by decide)] at H; exact H
    clear H
    have H := H1
    clear H1
    simp only [Option.some.injEq, Prod.mk.injEq] at H
    obtain ⟨rfl, rfl, rfl⟩ := H
    go_enter Try.func12, Try.ntmps12
    go_wp2_with (first | ((with_reducible refine gate_dst (N := 4) rfl ?_); refine box_event ?hg (N := 4) ?hd (cs := #[.slice none 0 0, .slice none 0 0]) (t := 25) ?hr ?_; (case hd => rfl); (case hg => rfl); (case hr => first | (go_simp; done) | (go_simp; rfl)); intro gb247 hg w15 hbox hb; have n0_ := Aside0.mk (Kd.V_below (Kd.V_elderB (mvV_ HO0.out) gb247 (Nat.le_of_eq hg.symm)) hb); have n1_ := Aside0.mk (below_step (bq0_ HB.out) hb); have n2_ := Aside0.mk (hbox); have n3_ := Aside0.mk ((by rw [hg]; exact (below_size (bq0_ HB.out)) : w.heap.size ≤ gb247)); have n4_ := Aside0.mk ((by rw [hg]; exact (below_size (bq0_ HB.out)) : w.heap.size ≤ gb247)); clear HO0; clear HB; have HO0 := n0_; have HB := n1_; have BK247 := n2_; have GW247 := n3_; have GE247 := n4_; clear n0_ n1_ n2_ n3_ n4_; clear hb hbox hg) | ((with_reducible refine gate_callee (f := 18) rfl ?_); refine goesL_ (some 9) rfl rfl Try.func18 (by kernel_rfl) rfl #[.slice A0 l0.length c0] rfl (by (try simp only [List.map_toArray, List.map_cons, List.map_nil]); first | done | rfl | (simp only [List.length_drop, List.length_take]; rfl)) ?_; (with_reducible refine (fullerref17_Check.calls k _ _ l0 false _ ?side1 ?side2 A3.out).mono ?_); (case side1 => repeat (first | exact (Kd.V_reads' HO0.out).2.2 | (with_reducible refine Kd.C_alloc ?_ _) | (with_reducible refine Kd.C_drewN ?_ _) | (with_reducible refine Kd.C_drew ?_))); (case side2 => exact (Kd.V_reads' HO0.out).2.1); rintro e w16 ⟨rfl, hb⟩; refine ⟨_, rfl, ?_⟩; have n0_ := Aside0.mk (Kd.V_below (mvV_ HO0.out) hb); have n1_ := Aside0.mk (blk_below (g := gb247) (o := .cells #[.slice none 0 0, .slice none 0 0] 25 (0, 0)) (mvK_ BK247.out) hb); have n2_ := Aside0.mk (below_step (bq1_ HB.out GE247.out) hb); clear HO0; clear BK247; clear HB; have HO0 := n0_; have BK247 := n1_; have HB := n2_; clear n0_ n1_ n2_; (try clear hb); (try clear hb2); (try clear hk); (try clear hi)) | ((with_reducible refine gate_callee (f := 26) rfl ?_); refine goesL_ (some 12) rfl rfl Try.func26 (by kernel_rfl) rfl #[.slice A0 l0.length c0, .int .i64 a1] rfl (by (try simp only [List.map_toArray, List.map_cons, List.map_nil]); first | done | rfl | (simp only [List.length_drop, List.length_take]; rfl)) ?_; (with_reducible refine (fullerref17_at.calls k _ _ l0 a1 t249 _ ?side1 ?side2 A4.out).mono ?_); (case side1 => repeat (first | exact (Kd.V_reads' HO0.out).2.2 | (with_reducible refine Kd.C_alloc ?_ _) | (with_reducible refine Kd.C_drewN ?_ _) | (with_reducible refine Kd.C_drew ?_))); (case side2 => exact (Kd.V_reads' HO0.out).2.1); rintro e w' ⟨rfl, ⟨nd, rfl⟩⟩; refine ⟨_, rfl, ?_⟩; (try (rw [drewN_self w16]; generalize hq_ : World.drewN w16 _ = w16; have n0_ : Aside0 (Kd.V k41 41 w16 w.heap.size (fun k_ => (P0_ k_ ∨ w.heap.size ≤ k_) ∧ k_ ≠ gb247) (.slice A0 l0.length c0) l0) := ⟨by rw [← hq_]; exact (mvV_ HO0.out)⟩; have n1_ : Aside0 (w16.heap[gb247]? = some (.cells #[.slice none 0 0, .slice none 0 0] 25 (0, 0))) := ⟨by rw [← hq_]; exact (mvK_ BK247.out)⟩; have n2_ : Aside0 (Below w.heap.size w w16) := ⟨by rw [← hq_]; exact (bq1_ HB.out GE247.out)⟩; clear HO0 BK247 HB hq_; have HO0 := n0_; have BK247 := n1_; have HB := n2_; clear n0_ n1_ n2_)); have hcz17_0 : w16.cell? ⟨gb247, 0, none⟩ = some (.slice none 0 0) := (blk_cell BK247.out 0).trans rfl; have hcz17_1 : w16.cell? ⟨gb247, 1, none⟩ = some (.slice none 0 0) := (blk_cell BK247.out 1).trans rfl; have hfz17_0 := blk_frozen BK247.out 0; have hfz17_1 := blk_frozen BK247.out 1))
    refine bodyPost_ret (results_ct rfl _ _ gb247 25 #[.slice none 0 0, .slice none 0 0] (0, 0) _ rfl (by (with_reducible repeat (first | refine blk_drewN ?_ _ | refine blk_drew ?_ | refine blk_alloc ?_ _)); refine blk_put (cs := #[.slice none 0 0, .slice none 0 0]) ?_ 1 _ rfl; (with_reducible repeat (first | refine blk_drewN ?_ _ | refine blk_drew ?_ | refine blk_alloc ?_ _)); refine blk_put (cs := #[.slice none 0 0, .slice none 0 0]) ?_ 0 _ rfl; (with_reducible repeat (first | refine blk_drewN ?_ _ | refine blk_drew ?_ | refine blk_alloc ?_ _)); exact BK247.out) Try.underlying25 rfl (by kernel_rfl)) rfl ?_
    exact ⟨_, _, by first | rfl | (simp [errW_none, errW_some] <;> rfl) | (simp [*, errW_none, errW_some] <;> rfl), (Kd.V_nil _ _ _ _ _), (Kd.V_nil _ _ _ _ _), by repeat (first | (with_reducible first | exact HB.out | apply below_alloc | apply pw_below_drewN | apply below_drew1 | refine below_set ?_ GE247.out) | exact HB.out)⟩

end Go.Proofs.Ytdjlpbekoggmiaa.A
