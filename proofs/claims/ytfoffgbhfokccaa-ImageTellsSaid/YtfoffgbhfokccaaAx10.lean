/- Lean functions that answer as the Go functions do, and the proofs that they do; no conditions. Written by this session's own driver: a scratch copy of the kit's print with the session's additions (wip/xprint). -/
import Derived.Test.YtfoffgbhfokccaaAx0
import Derived.Test.YtfoffgbhfokccaaAx7
import Derived.Test.YtfoffgbhfokccaaAx9
namespace Go.Proofs.Ytfoffgbhfokccaa.A
open Go.RowKit Go.Proofs.YtfoffgbhfokccaaW.PrintWords Go.Proofs.YtfoffgbhfokccaaW.PrintLast Go.Proofs.YtfoffgbhfokccaaW.PrintMore
attribute [local go_sem] max2_int min2_int max_two min_two max_three min_three max_four min_four   -- for this text's walks alone
set_option linter.unusedVariables false
set_option linter.unusedSimpArgs false

/-! ### fullerref08_TakeList: function 31 -/
mutual
def fullerref08_TakeList.j0 : Nat → Int → Int → List Int → Bool → Option (List Int × List Int × Int)
  | 0, _, _, _, _ => none
  | k + 1, x1, x7, x8, x34 => if x34 = true then (some (([] : List Int), ([] : List Int), 40)) else (fullerref08_TakeList.l0 k x1 x7 x8 ([] : List Int) 0)
def fullerref08_TakeList.l0 : Nat → Int → Int → List Int → List Int → Int → Option (List Int × List Int × Int)
  | 0, _, _, _, _, _ => none
  | k + 1, x1, x7, x8, x10, x11 => if x11 < x7 then ((fullerref08_Take.f k x8 x1).bind fun bt296 => (if bt296.2.2 = 0 then (if x10.length < 17592186044416 then (fullerref08_TakeList.l0 k x1 x7 bt296.2.1 (x10 ++ [bt296.1]) (wrap64 (x11 + 1))) else (none)) else (some (([] : List Int), ([] : List Int), bt296.2.2)))) else (some (x10, x8, 0))
end
def fullerref08_TakeList.f (k : Nat) (l0 : List Int) (a1 : Int) : Option (List Int × List Int × Int) := (fullerref08_Take.f k l0 1).bind fun bt291 => (if bt291.2.2 = 0 then (if a1 = 1 then (fullerref08_TakeList.j0 k a1 bt291.1 bt291.2.1 false) else (if a1 = 2 then (fullerref08_TakeList.j0 k a1 bt291.1 bt291.2.1 false) else (fullerref08_TakeList.j0 k a1 bt291.1 bt291.2.1 (a1 != 8)))) else (fullerref08_TakeList.j0 k a1 bt291.1 bt291.2.1 true))
theorem fullerref08_TakeList.mono_l : ∀ k, (∀ y0 y1 y2 y3, LeO (fullerref08_TakeList.j0 k y0 y1 y2 y3) (fullerref08_TakeList.j0 (k + 1) y0 y1 y2 y3)) ∧ (∀ y0 y1 y2 y3 y4, LeO (fullerref08_TakeList.l0 k y0 y1 y2 y3 y4) (fullerref08_TakeList.l0 (k + 1) y0 y1 y2 y3 y4))
  | 0 => ⟨fun _ _ _ _ r h => by simp [fullerref08_TakeList.j0] at h, fun _ _ _ _ _ r h => by simp [fullerref08_TakeList.l0] at h⟩
  | k + 1 => by
    obtain ⟨ih0, ih1⟩ := fullerref08_TakeList.mono_l k
    refine ⟨?_, ?_⟩
    · intro y0 y1 y2 y3
      unfold fullerref08_TakeList.j0
      repeat' first
      | (with_reducible exact ih0 _ _ _ _)
      | (with_reducible exact ih1 _ _ _ _ _)
      | (with_reducible exact fullerref08_Take.mono _ _ _)
      | (with_reducible exact LeO.refl _)
      | (with_reducible exact LeO.none _)
      | (with_reducible refine LeO.ite ?_ ?_)
      | (with_reducible refine LeO.bind ?_ (fun _ => ?_))
      | exact ih0 _ _ _ _
      | exact ih1 _ _ _ _ _
      | exact fullerref08_Take.mono _ _ _
      | exact LeO.none _
      | refine LeO.ite ?_ ?_
      | refine LeO.bind ?_ (fun _ => ?_)
    · intro y0 y1 y2 y3 y4
      unfold fullerref08_TakeList.l0
      repeat' first
      | (with_reducible exact ih0 _ _ _ _)
      | (with_reducible exact ih1 _ _ _ _ _)
      | (with_reducible exact fullerref08_Take.mono _ _ _)
      | (with_reducible exact LeO.refl _)
      | (with_reducible exact LeO.none _)
      | (with_reducible refine LeO.ite ?_ ?_)
      | (with_reducible refine LeO.bind ?_ (fun _ => ?_))
      | exact ih0 _ _ _ _
      | exact ih1 _ _ _ _ _
      | exact fullerref08_Take.mono _ _ _
      | exact LeO.none _
      | refine LeO.ite ?_ ?_
      | refine LeO.bind ?_ (fun _ => ?_)
theorem fullerref08_TakeList.mono : ∀ a0 a1 k, LeO (fullerref08_TakeList.f k a0 a1) (fullerref08_TakeList.f (k + 1) a0 a1) := by
  intro a0 a1 k
  obtain ⟨ih0, ih1⟩ := fullerref08_TakeList.mono_l k
  unfold fullerref08_TakeList.f
  repeat' first
      | (with_reducible exact ih0 _ _ _ _)
      | (with_reducible exact ih1 _ _ _ _ _)
      | (with_reducible exact fullerref08_Take.mono _ _ _)
      | (with_reducible exact LeO.refl _)
      | (with_reducible exact LeO.none _)
      | (with_reducible refine LeO.ite ?_ ?_)
      | (with_reducible refine LeO.bind ?_ (fun _ => ?_))
      | exact ih0 _ _ _ _
      | exact ih1 _ _ _ _ _
      | exact fullerref08_Take.mono _ _ _
      | exact LeO.none _
      | refine LeO.ite ?_ ?_
      | refine LeO.bind ?_ (fun _ => ?_)
set_option maxHeartbeats 8000000 in
set_option maxRecDepth 100000 in
theorem fullerref08_TakeList.calls (k : Nat) (P0_ : Nat → Prop) (A0 : Option Addr) (c0 : Nat) (l0 : List Int) (a1 : Int) (r1 : List Int) (r2 : List Int) (r3 : Int) (w : World) (hs0 : Kd.V (Kd.int .u8) 5 w w.heap.size (fun k_ => P0_ k_) (.slice A0 l0.length c0) l0) (h : fullerref08_TakeList.f k l0 a1 = some (r1, r2, r3)) :
    Calls Try.prog 31 #[.slice A0 l0.length c0, .int .i64 a1] w fun e w' => ∃ v0_ v1_ : Value, e = .returned (.tuple #[v0_, v1_, .int .i64 r3]) ∧ Kd.R (Kd.int .i64) 3 w' w.heap.size (fun k_ => (w.heap.size ≤ k_)) v0_ r1 ∧ Kd.V (Kd.int .u8) 5 w' w.heap.size (fun k_ => (P0_ k_ ∨ w.heap.size ≤ k_) ∧ some k_ ≠ (v0_ : Value).ownBlock) v1_ r2 ∧ Below w.heap.size w w' := by
  have HO0 := Aside0.mk (show Kd.V (Kd.int .u8) 5 w w.heap.size (fun k_ => (P0_ k_ ∨ w.heap.size ≤ k_)) (.slice A0 l0.length c0) l0 from Kd.V_mono hs0 (fun k_ hk => .inl hk))
  have HB := Aside0.mk (Below.refl w.heap.size w)
  have H : ((fullerref08_Take.f k l0 1).bind fun bt291 => (if bt291.2.2 = 0 then (if a1 = 1 then (fullerref08_TakeList.j0 k a1 bt291.1 bt291.2.1 false) else (if a1 = 2 then (fullerref08_TakeList.j0 k a1 bt291.1 bt291.2.1 false) else (fullerref08_TakeList.j0 k a1 bt291.1 bt291.2.1 (a1 != 8)))) else (fullerref08_TakeList.j0 k a1 bt291.1 bt291.2.1 true))) = some (r1, r2, r3) := h
  clear h
  replace H := Option.bind_eq_some_iff.mp H
  obtain ⟨⟨t291, t292, t295⟩, A30, H⟩ := H
  replace H : (if t295 = 0 then (if a1 = 1 then (fullerref08_TakeList.j0 k a1 t291 t292 false) else (if a1 = 2 then (fullerref08_TakeList.j0 k a1 t291 t292 false) else (fullerref08_TakeList.j0 k a1 t291 t292 (a1 != 8)))) else (fullerref08_TakeList.j0 k a1 t291 t292 true)) = some (r1, r2, r3) := H
  have A3 := Aside0.mk A30
  clear A30
  have HC4 := Aside0.mk H
  clear H
  go_enter Try.func31, Try.ntmps31
  go_upto_region 2 with (first | ((with_reducible refine gate_callee (f := 34) rfl ?_); refine goesL_ (some 17) rfl rfl Try.func34 (by kernel_rfl) rfl #[.slice A0 l0.length c0, .int .i64 1] rfl (by (try simp only [List.map_toArray, List.map_cons, List.map_nil]); first | done | rfl | (simp only [List.length_drop, List.length_take]; rfl)) ?_; (with_reducible refine (fullerref08_Take.calls k (fun k_ => (P0_ k_ ∨ w.heap.size ≤ k_)) _ _ l0 1 t291 t292 t295 _ ?side1 A3.out).mono ?_); (case side1 => first | exact HO0.out | exact Kd.V_mono HO0.out (fun _ h_ => by simpa only [and_assoc, and_comm, and_left_comm] using h_)); rintro e w5 ⟨v293, rfl, ho0, hb⟩; refine ⟨_, rfl, ?_⟩; have n0_ := Aside0.mk (Kd.V_below (mvV_ HO0.out) hb); have n1_ := Aside0.mk (Kd.V_lower (Kd.V_mono (ok' := fun k_ => (P0_ k_ ∨ w.heap.size ≤ k_)) ho0 (fun k_ hk_ => Or.elim hk_ (fun hs_ => hs_) (fun hn_ => (.inr (Nat.le_trans (below_size (bq0_ HB.out)) hn_))))) (below_size (bq0_ HB.out))); have n2_ := Aside0.mk (below_step (bq0_ HB.out) hb); clear HO0; clear HB; have HO0 := n0_; have HO294 := n1_; have HB := n2_; clear n0_ n1_ n2_; (try clear hb); (try clear ho0)))
  (try simp only [Act.put, List.setIfInBounds_toArray, List.set_cons_zero, List.set_cons_succ])
  go_cut [34] (fun v34 wc => ∃ (kq : Nat) (x34_3 : Bool), v34 = .bool x34_3 ∧ Aside0 (fullerref08_TakeList.j0 kq a1 t291 t292 x34_3 = some (r1, r2, r3)) ∧ Aside0 (kq ≤ k) ∧ Aside0 (Kd.V (Kd.int .u8) 5 wc w.heap.size (fun k_ => (P0_ k_ ∨ w.heap.size ≤ k_)) v293 t292) ∧ Aside0 (Below w.heap.size w wc))
  case first =>
    have H := HC4.out
    clear HC4
    by_cases c6 : t295 = 0
    · rw [if_pos c6] at H
      have c6b0 : (t295 == 0) = true := beq_iff_eq.mpr c6
      have c6b1 : (t295 != 0) = false := bne_eq_false_iff_eq.mpr c6
      clear c6
      (first | rw [c6b0] | (simp only [i64_w, i32_w]; rw [c6b0]) | skip)
      by_cases c7 : a1 = 1
      · rw [if_pos c7] at H
        have c7b0 : (a1 == 1) = true := beq_iff_eq.mpr c7
        have c7b1 : (a1 != 1) = false := bne_eq_false_iff_eq.mpr c7
        clear c7
        have H' := Aside0.mk H
        clear H
        go_wp2
        go_meet
        case rel => exact ⟨_, (false), (by first | rfl | (simp; done) | (simp [*]; done)), H', ⟨by first | omega | exact Nat.le_refl _⟩, ⟨by (with_reducible repeat (first | apply Kd.V_alloc | apply Kd.V_drewN | apply Kd.V_drew)); exact HO294.out⟩, ⟨by repeat (first | (with_reducible first | exact HB.out | apply below_alloc | apply pw_below_drewN | apply below_drew1) | exact HB.out)⟩⟩
      · rw [if_neg c7] at H
        have c7b0 : (a1 == 1) = false := beq_eq_false_iff_ne.mpr c7
        have c7b1 : (a1 != 1) = true := bne_iff_ne.mpr c7
        by_cases c8 : a1 = 2
        · rw [if_pos c8] at H
          have c8b0 : (a1 == 2) = true := beq_iff_eq.mpr c8
          have c8b1 : (a1 != 2) = false := bne_eq_false_iff_eq.mpr c8
          clear c8
          have H' := Aside0.mk H
          clear H
          go_wp2
          go_meet
          case rel => exact ⟨_, (false), (by first | rfl | (simp; done) | (simp [*]; done)), H', ⟨by first | omega | exact Nat.le_refl _⟩, ⟨by (with_reducible repeat (first | apply Kd.V_alloc | apply Kd.V_drewN | apply Kd.V_drew)); exact HO294.out⟩, ⟨by repeat (first | (with_reducible first | exact HB.out | apply below_alloc | apply pw_below_drewN | apply below_drew1) | exact HB.out)⟩⟩
        · rw [if_neg c8] at H
          have c8b0 : (a1 == 2) = false := beq_eq_false_iff_ne.mpr c8
          have c8b1 : (a1 != 2) = true := bne_iff_ne.mpr c8
          have H' := Aside0.mk H
          clear H
          go_wp2
          go_meet
          case rel => exact ⟨_, ((a1 != 8)), (by first | rfl | (simp; done) | (simp [*]; done)), H', ⟨by first | omega | exact Nat.le_refl _⟩, ⟨by (with_reducible repeat (first | apply Kd.V_alloc | apply Kd.V_drewN | apply Kd.V_drew)); exact HO294.out⟩, ⟨by repeat (first | (with_reducible first | exact HB.out | apply below_alloc | apply pw_below_drewN | apply below_drew1) | exact HB.out)⟩⟩
    · rw [if_neg c6] at H
      have c6b0 : (t295 == 0) = false := beq_eq_false_iff_ne.mpr c6
      have c6b1 : (t295 != 0) = true := bne_iff_ne.mpr c6
      (first | rw [c6b0] | (simp only [i64_w, i32_w]; rw [c6b0]) | skip)
      have H' := Aside0.mk H
      clear H
      go_wp2
      go_meet
      case rel => exact ⟨_, (true), (by first | rfl | (simp; done) | (simp [*]; done)), H', ⟨by first | omega | exact Nat.le_refl _⟩, ⟨by (with_reducible repeat (first | apply Kd.V_alloc | apply Kd.V_drewN | apply Kd.V_drew)); exact HO294.out⟩, ⟨by repeat (first | (with_reducible first | exact HB.out | apply below_alloc | apply pw_below_drewN | apply below_drew1) | exact HB.out)⟩⟩
  case rest =>
    clear HC4
    try clear p2
    try clear c3
    try clear c6
    try clear c6b0
    try clear c6b1
    try clear c7
    try clear c7b0
    try clear c7b1
    try clear c8
    try clear c8b0
    try clear c8b1
    obtain ⟨kq, x34_3, rfl, HA, HJ3, HO_8, HB⟩ := hcut
    cases kq with
    | zero => exact absurd HA.out (by simp [fullerref08_TakeList.j0])
    | succ kj3 =>
      have H := HA.out
      clear HA
      simp only [fullerref08_TakeList.j0] at H
      by_cases c9 : x34_3 = true
      · subst c9
        have H1 : (some (([] : List Int), ([] : List Int), 40)) = some (r1, r2, r3) := by rw [if_pos rfl] at H; exact H
        clear H
        have H := H1
        clear H1
        simp only [Option.some.injEq, Prod.mk.injEq] at H
        obtain ⟨rfl, rfl, rfl⟩ := H
        go_wp2
        go_ret3
        exact ⟨_, _, by first | rfl | (simp [errW_none, errW_some] <;> rfl) | (simp [*, errW_none, errW_some] <;> rfl), by first | exact Kd.R_nil _ _ _ _ _ | exact Kd.N_nil _ _ _ _ _ | exact Kd.V_nil _ _ _ _ _ | exact Kd.Q_nil _ _ _ _ _ | exact Kd.S_nil _ _ _ _ _, (Kd.V_nil _ _ _ _ _), by repeat (first | (with_reducible first | exact HB.out | apply below_alloc | apply pw_below_drewN | apply below_drew1) | exact HB.out)⟩
      · replace c9 := Bool.eq_false_iff.mpr c9
        subst c9
        have H1 : (fullerref08_TakeList.l0 kj3 a1 t291 t292 ([] : List Int) 0) = some (r1, r2, r3) := by rw [if_neg (show ¬ (false = true) by decide)] at H; exact H
        clear H
        have H := H1
        clear H1
        have H' := Aside0.mk H
        clear H
        go_wp2
        go_loopg [8, 10, 11] kj3 (fun kq v8 v10 v11 w' => ∃ (x8_2 : List Int) (x10_2 : List Int) (x11_2 : Int), v11 = .int .i64 x11_2 ∧ Aside0 (fullerref08_TakeList.l0 kq a1 t291 x8_2 x10_2 x11_2 = some (r1, r2, r3)) ∧ Aside0 (kq ≤ kj3) ∧ Aside0 (Kd.V (Kd.int .u8) 5 w' w.heap.size (fun k_ => (P0_ k_ ∨ w.heap.size ≤ k_) ∧ some k_ ≠ (v10 : Value).ownBlock) v8 x8_2) ∧ Aside0 (Kd.R (Kd.int .i64) 3 w' w.heap.size (fun k_ => (w.heap.size ≤ k_)) v10 x10_2) ∧ Aside0 (Below w.heap.size w w'))
        case atStart => exact ⟨(t292), (([] : List Int)), (0), (by first | rfl | (simp; done) | (simp [*]; done)), H', ⟨Nat.le_refl _⟩, ⟨by (with_reducible repeat (first | apply Kd.V_alloc | apply Kd.V_drewN | apply Kd.V_drew)); exact Kd.V_mono HO_8.out (fun _ hk => ⟨hk, (by simp [Value.ownBlock])⟩)⟩, ⟨by first | exact Kd.R_nil _ _ _ _ _ | exact Kd.N_nil _ _ _ _ _ | exact Kd.V_nil _ _ _ _ _ | exact Kd.Q_nil _ _ _ _ _ | exact Kd.S_nil _ _ _ _ _⟩, ⟨by repeat (first | (with_reducible first | exact HB.out | apply below_alloc | apply pw_below_drewN | apply below_drew1) | exact HB.out)⟩⟩
        case round =>
          clear H'
          try clear p2
          try clear c3
          try clear c6
          try clear c6b0
          try clear c6b1
          try clear c7
          try clear c7b0
          try clear c7b1
          try clear c8
          try clear c8b0
          try clear c8b1
          try clear c9
          try clear p2
          obtain ⟨x8_2, x10_2, x11_2, rfl, HA, HK2, HO_8, HO_10, HB⟩ := hrel
          cases gk with
          | zero => exact absurd HA.out (by simp [fullerref08_TakeList.l0])
          | succ k2 =>
            have H := HA.out
            clear HA
            simp only [fullerref08_TakeList.l0] at H
            by_cases c10 : x11_2 < t291
            · rw [if_pos c10] at H
              have c10b0 : decide (x11_2 < t291) = true := decide_eq_true c10
              clear c10
              replace H := Option.bind_eq_some_iff.mp H
              obtain ⟨⟨t296, t297, t300⟩, A110, H⟩ := H
              replace H : (if t300 = 0 then (if x10_2.length < 17592186044416 then (fullerref08_TakeList.l0 k2 a1 t291 t297 (x10_2 ++ [t296]) (wrap64 (x11_2 + 1))) else (none)) else (some (([] : List Int), ([] : List Int), t300))) = some (r1, r2, r3) := H
              have A11 := Aside0.mk A110
              clear A110
              by_cases c12 : t300 = 0
              · rw [if_pos c12] at H
                have c12b0 : (t300 == 0) = true := beq_iff_eq.mpr c12
                have c12b1 : (t300 != 0) = false := bne_eq_false_iff_eq.mpr c12
                clear c12
                by_cases c13 : x10_2.length < 17592186044416
                · rw [if_pos c13] at H
                  have LMc13 := Aside0.mk c13
                  clear c13
                  obtain ⟨y301, hy301⟩ : ∃ y_ : List Int, y_ = (x10_2 ++ [t296]) := ⟨_, rfl⟩
                  replace H : (fullerref08_TakeList.l0 k2 a1 t291 t297 y301 (wrap64 (x11_2 + 1))) = some (r1, r2, r3) := by first | (rw [hy301]; with_reducible exact H) | (have H2_ := (Option.bind_some _ _).symm.trans H; rw [hy301]; with_reducible exact H2_) | (have H2_ := (Option.bind_some _ _).symm.trans H; with_reducible exact H2_) | with_reducible exact H | (rw [hy301]; exact H) | exact H
                  have Ny301 := Aside0.mk hy301
                  clear hy301
                  have H' := Aside0.mk H
                  clear H
                  obtain ⟨Ao14, co14, eo14⟩ := Kd.V_slice HO_8.out
                  subst eo14
                  go_wp2_with (first | ((with_reducible refine gate_callee (f := 34) rfl ?_); refine goesL_ (some 43) rfl rfl Try.func34 (by kernel_rfl) rfl #[.slice Ao14 x8_2.length co14, .int .i64 a1] rfl (by (try simp only [List.map_toArray, List.map_cons, List.map_nil]); first | done | rfl | (simp only [List.length_drop, List.length_take]; rfl)) ?_; (with_reducible refine (fullerref08_Take.calls k2 (fun k_ => ((P0_ k_ ∨ w.heap.size ≤ k_) ∧ some k_ ≠ (u10 : Value).ownBlock)) _ _ x8_2 a1 t296 t297 t300 _ ?side1 A11.out).mono ?_); (case side1 => first | exact HO_8.out | exact Kd.V_mono HO_8.out (fun _ h_ => by simpa only [and_assoc, and_comm, and_left_comm] using h_)); rintro e w15 ⟨v298, rfl, ho0, hb⟩; refine ⟨_, rfl, ?_⟩; have n0_ := Aside0.mk (Kd.V_below (mvV_ HO_8.out) hb); have n1_ := Aside0.mk (Kd.R_below (mvR_ HO_10.out) hb); have n2_ := Aside0.mk (Kd.V_lower (Kd.V_mono (ok' := fun k_ => (P0_ k_ ∨ w.heap.size ≤ k_) ∧ some k_ ≠ (u10 : Value).ownBlock) ho0 (fun k_ hk_ => ⟨Or.elim hk_ (fun hs_ => hs_.1) (fun hn_ => (.inr (Nat.le_trans (below_size (bq0_ HB.out)) hn_))), Or.elim hk_ (fun hs_ => hs_.2) (fun hn_ => (Kd.fresh' (Kd.R_lt (mvR_ HO_10.out)) k_ hn_))⟩)) (below_size (bq0_ HB.out))); have n3_ := Aside0.mk (below_step (bq0_ HB.out) hb); clear HO_8; clear HO_10; clear HB; have HO_8 := n0_; have HO_10 := n1_; have HO299 := n2_; have HB := n3_; clear n0_ n1_ n2_ n3_; (try clear hb); (try clear ho0)) | ((with_reducible refine gate_builtin (b := .append) (xs := #[.tmp 50, .tmp 52]) rfl ?_); at_builtin; refine Kd.R_append (Kd.int .i64) (w0 := w) w.heap.size rfl (.tmp 50) (.tmp 52) 24 3 (.int .i64 0) 8 rfl Try.underlying24 info3 rfl (by decide) (by omega) u10 x10_2 t296 [.int .i64 t296] (fun k_ => (w.heap.size ≤ k_)) (fun _ => False) rfl rfl ?aP (fun _ hk => hk.elim) ?aF ?aO ?aB ?aS ?aL ?_; (case aP => exact rfl); (case aB => exact (bq0_ HB.out)); (case aF => exact (fun k_ hk => (Nat.le_trans (below_size (bq0_ HB.out)) hk))); (case aO => exact (mvR_ HO_10.out)); (case aS => exact (below_size (bq0_ HB.out))); (case aL => have := LMc13.out; omega); intro v302 w16 ho hb hg hat; rw [← Ny301.out] at ho; have n0_ := Aside0.mk (Kd.V_afterv (ok := (fun k_ => (P0_ k_ ∨ w.heap.size ≤ k_))) (mvV_ HO_8.out) hg hat); have n1_ := Aside0.mk (Kd.V_afterv (ok := (fun k_ => (P0_ k_ ∨ w.heap.size ≤ k_))) (mvV_ HO299.out) hg hat); have n2_ := Aside0.mk (hb); have n3_ := Aside0.mk (ho); clear HO_8; clear HO299; clear HB; clear HO_10; have HO_8 := n0_; have HO299 := n1_; have HB := n2_; have HO303 := n3_; clear n0_ n1_ n2_ n3_; clear ho hb hg hat))
                  go_roundg k2
                  case measure => have := HJ3.out; have := HK2.out; omega
                  case rel => exact ⟨(t297), (y301), (wrap64 (x11_2 + 1)), (by first | rfl | (simp; done) | (simp [*]; done)), H', ⟨by have := HJ3.out; have := HK2.out; omega⟩, ⟨by (with_reducible repeat (first | apply Kd.V_alloc | apply Kd.V_drewN | apply Kd.V_drew)); exact HO299.out⟩, ⟨by (with_reducible repeat (first | apply Kd.R_alloc | apply Kd.R_drewN | apply Kd.R_drew)); exact HO303.out⟩, ⟨by repeat (first | (with_reducible first | exact HB.out | apply below_alloc | apply pw_below_drewN | apply below_drew1) | exact HB.out)⟩⟩
                · rw [if_neg c13] at H
                  exact absurd H (by simp)
              · rw [if_neg c12] at H
                have c12b0 : (t300 == 0) = false := beq_eq_false_iff_ne.mpr c12
                have c12b1 : (t300 != 0) = true := bne_iff_ne.mpr c12
                simp only [Option.some.injEq, Prod.mk.injEq] at H
                obtain ⟨rfl, rfl, rfl⟩ := H
                obtain ⟨Ao17, co17, eo17⟩ := Kd.V_slice HO_8.out
                subst eo17
                go_wp2_with (first | ((with_reducible refine gate_callee (f := 34) rfl ?_); refine goesL_ (some 43) rfl rfl Try.func34 (by kernel_rfl) rfl #[.slice Ao17 x8_2.length co17, .int .i64 a1] rfl (by (try simp only [List.map_toArray, List.map_cons, List.map_nil]); first | done | rfl | (simp only [List.length_drop, List.length_take]; rfl)) ?_; (with_reducible refine (fullerref08_Take.calls k2 (fun k_ => ((P0_ k_ ∨ w.heap.size ≤ k_) ∧ some k_ ≠ (u10 : Value).ownBlock)) _ _ x8_2 a1 t296 t297 t300 _ ?side1 A11.out).mono ?_); (case side1 => first | exact HO_8.out | exact Kd.V_mono HO_8.out (fun _ h_ => by simpa only [and_assoc, and_comm, and_left_comm] using h_)); rintro e w18 ⟨v298, rfl, ho0, hb⟩; refine ⟨_, rfl, ?_⟩; have n0_ := Aside0.mk (Kd.V_below (mvV_ HO_8.out) hb); have n1_ := Aside0.mk (Kd.R_below (mvR_ HO_10.out) hb); have n2_ := Aside0.mk (Kd.V_lower (Kd.V_mono (ok' := fun k_ => (P0_ k_ ∨ w.heap.size ≤ k_) ∧ some k_ ≠ (u10 : Value).ownBlock) ho0 (fun k_ hk_ => ⟨Or.elim hk_ (fun hs_ => hs_.1) (fun hn_ => (.inr (Nat.le_trans (below_size (bq0_ HB.out)) hn_))), Or.elim hk_ (fun hs_ => hs_.2) (fun hn_ => (Kd.fresh' (Kd.R_lt (mvR_ HO_10.out)) k_ hn_))⟩)) (below_size (bq0_ HB.out))); have n3_ := Aside0.mk (below_step (bq0_ HB.out) hb); clear HO_8; clear HO_10; clear HB; have HO_8 := n0_; have HO_10 := n1_; have HO299 := n2_; have HB := n3_; clear n0_ n1_ n2_ n3_; (try clear hb); (try clear ho0)))
                go_ret3
                exact ⟨_, _, by first | rfl | (simp [errW_none, errW_some] <;> rfl) | (simp [*, errW_none, errW_some] <;> rfl), by first | exact Kd.R_nil _ _ _ _ _ | exact Kd.N_nil _ _ _ _ _ | exact Kd.V_nil _ _ _ _ _ | exact Kd.Q_nil _ _ _ _ _ | exact Kd.S_nil _ _ _ _ _, (Kd.V_nil _ _ _ _ _), by repeat (first | (with_reducible first | exact HB.out | apply below_alloc | apply pw_below_drewN | apply below_drew1) | exact HB.out)⟩
            · rw [if_neg c10] at H
              have c10b0 : decide (x11_2 < t291) = false := decide_eq_false c10
              clear c10
              simp only [Option.some.injEq, Prod.mk.injEq] at H
              obtain ⟨rfl, rfl, rfl⟩ := H
              go_wp2
              go_ret3
              exact ⟨_, _, by first | rfl | (simp [errW_none, errW_some] <;> rfl) | (simp [*, errW_none, errW_some] <;> rfl), by (with_reducible repeat (first | apply Kd.R_alloc | apply Kd.R_drewN | apply Kd.R_drew)); exact HO_10.out, by (with_reducible repeat (first | apply Kd.V_alloc | apply Kd.V_drewN | apply Kd.V_drew)); exact HO_8.out, by repeat (first | (with_reducible first | exact HB.out | apply below_alloc | apply pw_below_drewN | apply below_drew1) | exact HB.out)⟩

/-! ### fullerref09_Take: function 16 -/
mutual
def fullerref09_Take.j0 : Nat → List Int → List Int → Bool → Option (List Int × List Int × List Int × Int)
  | 0, _, _, _ => none
  | k + 1, x5, x6, x27 => if x27 = true then (some (([] : List Int), ([] : List Int), ([] : List Int), 50)) else (fullerref09_Take.l0 k x5 x6 0 x5 ([] : List Int))
def fullerref09_Take.l0 : Nat → List Int → List Int → Int → List Int → List Int → Option (List Int × List Int × List Int × Int)
  | 0, _, _, _, _, _ => none
  | k + 1, x5, x6, x10, x314000, x314001 => (fullerref02_Size.f k x5).bind fun t314 => (if x10 < t314 then ((fullerref08_Take.f k x6 8).bind fun bt315 => (if bt315.2.2 = 0 then (if x314001.length < 17592186044416 then (fullerref09_Take.l0 k x5 bt315.2.1 (wrap64 (x10 + 1)) x314000 (x314001 ++ [bt315.1])) else (none)) else (some (([] : List Int), ([] : List Int), ([] : List Int), 50)))) else (some (x314000, x314001, x6, 0)))
end
def fullerref09_Take.f (k : Nat) (l0 : List Int) : Option (List Int × List Int × List Int × Int) := (fullerref08_TakeList.f k l0 1).bind fun bt305 => ((fullerref02_Check.f k bt305.1).bind fun t312 => (if bt305.2.2 = 0 then (fullerref09_Take.j0 k bt305.1 bt305.2.1 (!t312)) else (fullerref09_Take.j0 k bt305.1 bt305.2.1 true)))
theorem fullerref09_Take.mono_l : ∀ k, (∀ y0 y1 y2, LeO (fullerref09_Take.j0 k y0 y1 y2) (fullerref09_Take.j0 (k + 1) y0 y1 y2)) ∧ (∀ y0 y1 y2 y3 y4, LeO (fullerref09_Take.l0 k y0 y1 y2 y3 y4) (fullerref09_Take.l0 (k + 1) y0 y1 y2 y3 y4))
  | 0 => ⟨fun _ _ _ r h => by simp [fullerref09_Take.j0] at h, fun _ _ _ _ _ r h => by simp [fullerref09_Take.l0] at h⟩
  | k + 1 => by
    obtain ⟨ih0, ih1⟩ := fullerref09_Take.mono_l k
    refine ⟨?_, ?_⟩
    · intro y0 y1 y2
      unfold fullerref09_Take.j0
      repeat' first
      | (with_reducible exact ih0 _ _ _)
      | (with_reducible exact ih1 _ _ _ _ _)
      | (with_reducible exact fullerref02_Check.mono _ _)
      | (with_reducible exact fullerref02_Size.mono _ _)
      | (with_reducible exact fullerref08_Take.mono _ _ _)
      | (with_reducible exact fullerref08_TakeList.mono _ _ _)
      | (with_reducible exact LeO.refl _)
      | (with_reducible exact LeO.none _)
      | (with_reducible refine LeO.ite ?_ ?_)
      | (with_reducible refine LeO.bind ?_ (fun _ => ?_))
      | exact ih0 _ _ _
      | exact ih1 _ _ _ _ _
      | exact fullerref02_Check.mono _ _
      | exact fullerref02_Size.mono _ _
      | exact fullerref08_Take.mono _ _ _
      | exact fullerref08_TakeList.mono _ _ _
      | exact LeO.none _
      | refine LeO.ite ?_ ?_
      | refine LeO.bind ?_ (fun _ => ?_)
    · intro y0 y1 y2 y3 y4
      unfold fullerref09_Take.l0
      repeat' first
      | (with_reducible exact ih0 _ _ _)
      | (with_reducible exact ih1 _ _ _ _ _)
      | (with_reducible exact fullerref02_Check.mono _ _)
      | (with_reducible exact fullerref02_Size.mono _ _)
      | (with_reducible exact fullerref08_Take.mono _ _ _)
      | (with_reducible exact fullerref08_TakeList.mono _ _ _)
      | (with_reducible exact LeO.refl _)
      | (with_reducible exact LeO.none _)
      | (with_reducible refine LeO.ite ?_ ?_)
      | (with_reducible refine LeO.bind ?_ (fun _ => ?_))
      | exact ih0 _ _ _
      | exact ih1 _ _ _ _ _
      | exact fullerref02_Check.mono _ _
      | exact fullerref02_Size.mono _ _
      | exact fullerref08_Take.mono _ _ _
      | exact fullerref08_TakeList.mono _ _ _
      | exact LeO.none _
      | refine LeO.ite ?_ ?_
      | refine LeO.bind ?_ (fun _ => ?_)
theorem fullerref09_Take.mono : ∀ a0 k, LeO (fullerref09_Take.f k a0) (fullerref09_Take.f (k + 1) a0) := by
  intro a0 k
  obtain ⟨ih0, ih1⟩ := fullerref09_Take.mono_l k
  unfold fullerref09_Take.f
  repeat' first
      | (with_reducible exact ih0 _ _ _)
      | (with_reducible exact ih1 _ _ _ _ _)
      | (with_reducible exact fullerref02_Check.mono _ _)
      | (with_reducible exact fullerref02_Size.mono _ _)
      | (with_reducible exact fullerref08_Take.mono _ _ _)
      | (with_reducible exact fullerref08_TakeList.mono _ _ _)
      | (with_reducible exact LeO.refl _)
      | (with_reducible exact LeO.none _)
      | (with_reducible refine LeO.ite ?_ ?_)
      | (with_reducible refine LeO.bind ?_ (fun _ => ?_))
      | exact ih0 _ _ _
      | exact ih1 _ _ _ _ _
      | exact fullerref02_Check.mono _ _
      | exact fullerref02_Size.mono _ _
      | exact fullerref08_Take.mono _ _ _
      | exact fullerref08_TakeList.mono _ _ _
      | exact LeO.none _
      | refine LeO.ite ?_ ?_
      | refine LeO.bind ?_ (fun _ => ?_)
set_option maxHeartbeats 8000000 in
set_option maxRecDepth 100000 in
theorem fullerref09_Take.calls (k : Nat) (P0_ : Nat → Prop) (A0 : Option Addr) (c0 : Nat) (l0 : List Int) (r1 : List Int) (r2 : List Int) (r3 : List Int) (r4 : Int) (w : World) (hs0 : Kd.V (Kd.int .u8) 5 w w.heap.size (fun k_ => P0_ k_) (.slice A0 l0.length c0) l0) (h : fullerref09_Take.f k l0 = some (r1, r2, r3, r4)) :
    Calls Try.prog 16 #[.slice A0 l0.length c0] w fun e w' => ∃ v0_ v1_ v2_ : Value, e = .returned (.tuple #[.agg #[v0_, v1_], v2_, .int .i64 r4]) ∧ Kd.R (Kd.int .i64) 3 w' w.heap.size (fun k_ => (w.heap.size ≤ k_) ∧ some k_ ≠ (v1_ : Value).ownBlock) v0_ r1 ∧ Kd.R (Kd.int .i64) 3 w' w.heap.size (fun k_ => (w.heap.size ≤ k_) ∧ some k_ ≠ (v0_ : Value).ownBlock) v1_ r2 ∧ Kd.V (Kd.int .u8) 5 w' w.heap.size (fun k_ => (P0_ k_ ∨ w.heap.size ≤ k_) ∧ some k_ ≠ (v0_ : Value).ownBlock ∧ some k_ ≠ (v1_ : Value).ownBlock) v2_ r3 ∧ Below w.heap.size w w' := by
  have hu26 := Try.underlying26
  have HO0 := Aside0.mk (show Kd.V (Kd.int .u8) 5 w w.heap.size (fun k_ => (P0_ k_ ∨ w.heap.size ≤ k_)) (.slice A0 l0.length c0) l0 from Kd.V_mono hs0 (fun k_ hk => .inl hk))
  have HB := Aside0.mk (Below.refl w.heap.size w)
  have H : ((fullerref08_TakeList.f k l0 1).bind fun bt305 => ((fullerref02_Check.f k bt305.1).bind fun t312 => (if bt305.2.2 = 0 then (fullerref09_Take.j0 k bt305.1 bt305.2.1 (!t312)) else (fullerref09_Take.j0 k bt305.1 bt305.2.1 true)))) = some (r1, r2, r3, r4) := h
  clear h
  replace H := Option.bind_eq_some_iff.mp H
  obtain ⟨⟨t305, t308, t311⟩, A20, H⟩ := H
  replace H : ((fullerref02_Check.f k t305).bind fun t312 => (if t311 = 0 then (fullerref09_Take.j0 k t305 t308 (!t312)) else (fullerref09_Take.j0 k t305 t308 true))) = some (r1, r2, r3, r4) := H
  have A2 := Aside0.mk A20
  clear A20
  replace H := Option.bind_eq_some_iff.mp H
  obtain ⟨t312, A30, H⟩ := H
  replace H : (if t311 = 0 then (fullerref09_Take.j0 k t305 t308 (!t312)) else (fullerref09_Take.j0 k t305 t308 true)) = some (r1, r2, r3, r4) := H
  have A3 := Aside0.mk A30
  clear A30
  have HC4 := Aside0.mk H
  clear H
  go_enter Try.func16, Try.ntmps16
  go_upto_region 3 with (first | ((with_reducible refine gate_dst (N := 2) rfl ?_); refine box_event ?hg (N := 2) ?hd (cs := #[.slice none 0 0, .slice none 0 0]) (t := 26) ?hr ?_; (case hd => rfl); (case hg => rfl); (case hr => first | (go_simp; done) | (go_simp; rfl)); intro gb304 hg w5 hbox hb; have n0_ := Aside0.mk (Kd.V_below (Kd.V_elderB (mvV_ HO0.out) gb304 (Nat.le_of_eq hg.symm)) hb); have n1_ := Aside0.mk (below_step (bq0_ HB.out) hb); have n2_ := Aside0.mk (hbox); have n3_ := Aside0.mk ((by rw [hg]; exact (below_size (bq0_ HB.out)) : w.heap.size ≤ gb304)); have n4_ := Aside0.mk ((by rw [hg]; exact (below_size (bq0_ HB.out)) : w.heap.size ≤ gb304)); clear HO0; clear HB; have HO0 := n0_; have HB := n1_; have BK304 := n2_; have GW304 := n3_; have GE304 := n4_; clear n0_ n1_ n2_ n3_ n4_; clear hb hbox hg) | ((with_reducible refine gate_callee (f := 31) rfl ?_); refine goesL_ (some 16) rfl rfl Try.func31 (by kernel_rfl) rfl #[.slice A0 l0.length c0, .int .i64 1] rfl (by (try simp only [List.map_toArray, List.map_cons, List.map_nil]); first | done | rfl | (simp only [List.length_drop, List.length_take]; rfl)) ?_; (with_reducible refine (fullerref08_TakeList.calls k (fun k_ => ((P0_ k_ ∨ w.heap.size ≤ k_) ∧ k_ ≠ gb304)) _ _ l0 1 t305 t308 t311 _ ?side1 A2.out).mono ?_); (case side1 => first | exact HO0.out | exact Kd.V_mono HO0.out (fun _ h_ => by simpa only [and_assoc, and_comm, and_left_comm] using h_)); rintro e w6 ⟨v306, v309, rfl, ho0, ho1, hb⟩; refine ⟨_, rfl, ?_⟩; have n0_ := Aside0.mk (Kd.V_elder' (mvV_ HO0.out) (Kd.R_base ho0) hb); have n1_ := Aside0.mk (Kd.R_lower (Kd.R_newM (M := fun k_ => (w.heap.size ≤ k_)) (Kd.R_mono (ok' := fun k_ => True) ho0 (fun _ hk_ => trivial)) (below_size (bq1_ HB.out GE304.out)) (fun k_ h_ => h_)) (below_size (bq1_ HB.out GE304.out))); have n2_ := Aside0.mk (Kd.V_lower (Kd.V_mono (ok' := fun k_ => (P0_ k_ ∨ w.heap.size ≤ k_) ∧ some k_ ≠ (v306 : Value).ownBlock ∧ k_ ≠ gb304) ho1 (fun k_ hk_ => ⟨Or.elim hk_.1 (fun hs_ => hs_.1) (fun hn_ => (.inr (Nat.le_trans (below_size (bq1_ HB.out GE304.out)) hn_))), hk_.2, Or.elim hk_.1 (fun hs_ => hs_.2) (fun hn_ => (Kd.freshB (g := gb304) (o := .cells #[.slice none 0 0, .slice none 0 0] 26 (0, 0)) (mvK_ BK304.out) k_ hn_))⟩)) (below_size (bq1_ HB.out GE304.out))); have n3_ := Aside0.mk (blk_below (g := gb304) (o := .cells #[.slice none 0 0, .slice none 0 0] 26 (0, 0)) (mvK_ BK304.out) hb); have n4_ := Aside0.mk (below_step (bq1_ HB.out GE304.out) hb); clear HO0; clear BK304; clear HB; have HO0 := n0_; have HO307 := n1_; have HO310 := n2_; have BK304 := n3_; have HB := n4_; clear n0_ n1_ n2_ n3_ n4_; (try clear hb); (try clear ho0); (try clear ho1); obtain ⟨Ao7, co7, eo7⟩ := Kd.R_slice HO307.out; subst eo7) | ((with_reducible refine gate_callee (f := 32) rfl ?_); refine goesL_ (some 21) rfl rfl Try.func32 (by kernel_rfl) rfl #[.slice Ao7 t305.length co7] rfl (by (try simp only [List.map_toArray, List.map_cons, List.map_nil]); first | done | rfl | (simp only [List.length_drop, List.length_take]; rfl)) ?_; (with_reducible refine (fullerref02_Check.calls k _ _ t305 t312 _ ?side1 ?side2 A3.out).mono ?_); (case side1 => exact mvC_ ((Kd.R_reads' HO307.out).2.2)); (case side2 => exact (Kd.R_reads' HO307.out).2.1); rintro e w' ⟨rfl, ⟨nd, rfl⟩⟩; refine ⟨_, rfl, ?_⟩))
  (try simp only [Act.put, List.setIfInBounds_toArray, List.set_cons_zero, List.set_cons_succ])
  go_cut [27] (fun v27 wc => ∃ (kq : Nat) (x27_3 : Bool), v27 = .bool x27_3 ∧ Aside0 (fullerref09_Take.j0 kq t305 t308 x27_3 = some (r1, r2, r3, r4)) ∧ Aside0 (kq ≤ k) ∧ Aside0 (Kd.R (Kd.int .i64) 3 wc w.heap.size (fun k_ => (w.heap.size ≤ k_)) (.slice Ao7 t305.length co7) t305) ∧ Aside0 (Kd.V (Kd.int .u8) 5 wc w.heap.size (fun k_ => (P0_ k_ ∨ w.heap.size ≤ k_) ∧ some k_ ≠ ((.slice Ao7 t305.length co7) : Value).ownBlock ∧ k_ ≠ gb304) v309 t308) ∧ Aside0 (wc.heap[gb304]? = some (.cells #[(.slice none 0 0), (.slice none 0 0)] 26 (0, 0))) ∧ Aside0 (Below w.heap.size w wc))
  case first =>
    have H := HC4.out
    clear HC4
    by_cases c8 : t311 = 0
    · rw [if_pos c8] at H
      have c8b0 : (t311 == 0) = true := beq_iff_eq.mpr c8
      have c8b1 : (t311 != 0) = false := bne_eq_false_iff_eq.mpr c8
      clear c8
      (first | rw [c8b0] | (simp only [i64_w, i32_w]; rw [c8b0]) | skip)
      have H' := Aside0.mk H
      clear H
      go_wp2
      go_meet
      case rel => exact ⟨_, (!t312), (by first | rfl | (simp; done) | (simp [*]; done)), H', ⟨by first | omega | exact Nat.le_refl _⟩, ⟨by (with_reducible repeat (first | apply Kd.R_alloc | apply Kd.R_drewN | apply Kd.R_drew)); exact Kd.R_mono HO307.out (fun _ hk => hk.1)⟩, ⟨by (with_reducible repeat (first | apply Kd.V_alloc | apply Kd.V_drewN | apply Kd.V_drew)); exact HO310.out⟩, ⟨by (with_reducible repeat (first | refine blk_drewN ?_ _ | refine blk_drew ?_ | refine blk_alloc ?_ _)); exact BK304.out⟩, ⟨by repeat (first | (with_reducible first | exact HB.out | apply below_alloc | apply pw_below_drewN | apply below_drew1 | refine below_set ?_ GE304.out) | exact HB.out)⟩⟩
    · rw [if_neg c8] at H
      have c8b0 : (t311 == 0) = false := beq_eq_false_iff_ne.mpr c8
      have c8b1 : (t311 != 0) = true := bne_iff_ne.mpr c8
      (first | rw [c8b0] | (simp only [i64_w, i32_w]; rw [c8b0]) | skip)
      have H' := Aside0.mk H
      clear H
      go_wp2
      go_meet
      case rel => exact ⟨_, (true), (by first | rfl | (simp; done) | (simp [*]; done)), H', ⟨by first | omega | exact Nat.le_refl _⟩, ⟨by (with_reducible repeat (first | apply Kd.R_alloc | apply Kd.R_drewN | apply Kd.R_drew)); exact Kd.R_mono HO307.out (fun _ hk => hk.1)⟩, ⟨by (with_reducible repeat (first | apply Kd.V_alloc | apply Kd.V_drewN | apply Kd.V_drew)); exact HO310.out⟩, ⟨by (with_reducible repeat (first | refine blk_drewN ?_ _ | refine blk_drew ?_ | refine blk_alloc ?_ _)); exact BK304.out⟩, ⟨by repeat (first | (with_reducible first | exact HB.out | apply below_alloc | apply pw_below_drewN | apply below_drew1 | refine below_set ?_ GE304.out) | exact HB.out)⟩⟩
  case rest =>
    clear HC4
    try clear c1
    try clear p2
    try clear c3
    try clear c8
    try clear c8b0
    try clear c8b1
    obtain ⟨kq, x27_3, rfl, HA, HJ3, HO_5, HO_6, BK304, HB⟩ := hcut
    cases kq with
    | zero => exact absurd HA.out (by simp [fullerref09_Take.j0])
    | succ kj3 =>
      have H := HA.out
      clear HA
      simp only [fullerref09_Take.j0] at H
      by_cases c9 : x27_3 = true
      · subst c9
        have H1 : (some (([] : List Int), ([] : List Int), ([] : List Int), 50)) = some (r1, r2, r3, r4) := by rw [if_pos rfl] at H; exact H
        clear H
        have H := H1
        clear H1
        simp only [Option.some.injEq, Prod.mk.injEq] at H
        obtain ⟨rfl, rfl, rfl, rfl⟩ := H
        have hcz10_0 : wc.cell? ⟨gb304, 0, none⟩ = some (.slice none 0 0) := (blk_cell BK304.out 0).trans rfl
        have hcz10_1 : wc.cell? ⟨gb304, 1, none⟩ = some (.slice none 0 0) := (blk_cell BK304.out 1).trans rfl
        have hfz10_0 := blk_frozen BK304.out 0
        have hfz10_1 := blk_frozen BK304.out 1
        go_wp2
        refine bodyPost_ret (results_ctt rfl _ _ gb304 26 #[.slice none 0 0, .slice none 0 0] (0, 0) _ rfl (by (with_reducible repeat (first | refine blk_drewN ?_ _ | refine blk_drew ?_ | refine blk_alloc ?_ _)); refine blk_put (cs := #[.slice none 0 0, .slice none 0 0]) ?_ 1 _ rfl; (with_reducible repeat (first | refine blk_drewN ?_ _ | refine blk_drew ?_ | refine blk_alloc ?_ _)); refine blk_put (cs := #[.slice none 0 0, .slice none 0 0]) ?_ 0 _ rfl; (with_reducible repeat (first | refine blk_drewN ?_ _ | refine blk_drew ?_ | refine blk_alloc ?_ _)); exact BK304.out) Try.underlying26 rfl (by kernel_rfl)) rfl ?_
        exact ⟨_, _, _, by first | rfl | (simp [errW_none, errW_some] <;> rfl) | (simp [*, errW_none, errW_some] <;> rfl), by first | exact Kd.R_nil _ _ _ _ _ | exact Kd.N_nil _ _ _ _ _ | exact Kd.V_nil _ _ _ _ _ | exact Kd.Q_nil _ _ _ _ _ | exact Kd.S_nil _ _ _ _ _, by first | exact Kd.R_nil _ _ _ _ _ | exact Kd.N_nil _ _ _ _ _ | exact Kd.V_nil _ _ _ _ _ | exact Kd.Q_nil _ _ _ _ _ | exact Kd.S_nil _ _ _ _ _, (Kd.V_nil _ _ _ _ _), by repeat (first | (with_reducible first | exact HB.out | apply below_alloc | apply pw_below_drewN | apply below_drew1 | refine below_set ?_ GE304.out) | exact HB.out)⟩
      · replace c9 := Bool.eq_false_iff.mpr c9
        subst c9
        have H1 : (fullerref09_Take.l0 kj3 t305 t308 0 t305 ([] : List Int)) = some (r1, r2, r3, r4) := by rw [if_neg (show ¬ (false = true) by decide)] at H; exact H
        clear H
        have H := H1
        clear H1
        have H' := Aside0.mk H
        clear H
        go_wp2_with (first | ((with_reducible refine gate_dst (N := 9) rfl ?_); refine box_event ?hg (N := 9) ?hd (cs := #[.slice none 0 0, .slice none 0 0]) (t := 26) ?hr ?_; (case hd => rfl); (case hg => rfl); (case hr => first | (go_simp; done) | (go_simp; rfl)); intro gb313 hg w11 hbox hb; have n0_ := Aside0.mk (Kd.R_below (mvR_ HO_5.out) hb); have n1_ := Aside0.mk (Kd.V_below (Kd.V_elderB (mvV_ HO_6.out) gb313 (Nat.le_of_eq hg.symm)) hb); have n2_ := Aside0.mk (blk_below (g := gb304) (o := .cells #[.slice none 0 0, .slice none 0 0] 26 (0, 0)) (mvK_ BK304.out) hb); have n3_ := Aside0.mk (below_step (bq1_ HB.out GE304.out) hb); have n4_ := Aside0.mk (hbox); have n5_ := Aside0.mk ((by rw [hg]; exact (below_size (bq1_ HB.out GE304.out)) : w.heap.size ≤ gb313)); have n6_ := Aside0.mk ((by rw [hg]; exact (below_size (bq1_ HB.out GE304.out)) : w.heap.size ≤ gb313)); have n7_ := Aside0.mk ((by rw [hg]; exact Nat.ne_of_lt (blk_lt (g := gb304) (o := .cells #[.slice none 0 0, .slice none 0 0] 26 (0, 0)) (mvK_ BK304.out)) : gb304 ≠ gb313)); have n8_ := Aside0.mk ((by rw [hg]; exact Nat.ne_of_gt (blk_lt (g := gb304) (o := .cells #[.slice none 0 0, .slice none 0 0] 26 (0, 0)) (mvK_ BK304.out)) : gb313 ≠ gb304)); clear HO_5; clear HO_6; clear BK304; clear HB; have HO_5 := n0_; have HO_6 := n1_; have BK304 := n2_; have HB := n3_; have BK313 := n4_; have GW313 := n5_; have GE313 := n6_; have NB304_313 := n7_; have NB313_304 := n8_; clear n0_ n1_ n2_ n3_ n4_ n5_ n6_ n7_ n8_; clear hb hbox hg; have hnb12 := NB313_304.out; have hnc12 := NB304_313.out; have hcz13_0 : w11.cell? ⟨gb313, 0, none⟩ = some (.slice none 0 0) := (blk_cell BK313.out 0).trans rfl; have hcz13_1 : w11.cell? ⟨gb313, 1, none⟩ = some (.slice none 0 0) := (blk_cell BK313.out 1).trans rfl; have hfz13_0 := blk_frozen BK313.out 0; have hfz13_1 := blk_frozen BK313.out 1))
        go_loopg [6, 10] kj3 (fun kq v6 v10 w' => ∃ (x6_2 : List Int) (x10_2 : Int) (x314001_2 : List Int) (u314001 : Value), v10 = .int .i64 x10_2 ∧ Aside0 (fullerref09_Take.l0 kq t305 x6_2 x10_2 t305 x314001_2 = some (r1, r2, r3, r4)) ∧ Aside0 (kq ≤ kj3) ∧ Aside0 (Kd.R (Kd.int .i64) 3 w' w.heap.size (fun k_ => (w.heap.size ≤ k_) ∧ some k_ ≠ (u314001 : Value).ownBlock) (.slice Ao7 t305.length co7) t305) ∧ Aside0 (Kd.V (Kd.int .u8) 5 w' w.heap.size (fun k_ => (P0_ k_ ∨ w.heap.size ≤ k_) ∧ some k_ ≠ ((.slice Ao7 t305.length co7) : Value).ownBlock ∧ some k_ ≠ ((.slice Ao7 t305.length co7) : Value).ownBlock ∧ some k_ ≠ (u314001 : Value).ownBlock ∧ k_ ≠ gb304 ∧ k_ ≠ gb313) v6 x6_2) ∧ Aside0 (Kd.R (Kd.int .i64) 3 w' w.heap.size (fun k_ => (w.heap.size ≤ k_) ∧ some k_ ≠ (u314001 : Value).ownBlock) (.slice Ao7 t305.length co7) t305) ∧ Aside0 (Kd.R (Kd.int .i64) 3 w' w.heap.size (fun k_ => (w.heap.size ≤ k_) ∧ some k_ ≠ ((.slice Ao7 t305.length co7) : Value).ownBlock ∧ some k_ ≠ ((.slice Ao7 t305.length co7) : Value).ownBlock) u314001 x314001_2) ∧ Aside0 (w'.heap[gb304]? = some (.cells #[(.slice none 0 0), (.slice none 0 0)] 26 (0, 0))) ∧ Aside0 (w'.heap[gb313]? = some (.cells #[(.slice Ao7 t305.length co7), u314001] 26 (0, 0))) ∧ Aside0 (Below w.heap.size w w'))
        case atStart => exact ⟨(t308), (0), (([] : List Int)), (.slice none 0 0), (by first | rfl | (simp; done) | (simp [*]; done)), H', ⟨Nat.le_refl _⟩, ⟨by (with_reducible repeat (first | apply Kd.R_alloc | apply Kd.R_drewN | apply Kd.R_drew)); exact Kd.R_mono (Kd.R_far (p := ⟨gb313, 1, none⟩) (Kd.R_far (p := ⟨gb313, 0, none⟩) (Kd.R_types HO_5.out BK313.out (by decide)) (fun _ hk => hk.2) (.slice Ao7 t305.length co7)) (fun _ hk => hk.2) (.slice none 0 0)) (fun _ hk => ⟨hk.1, (by simp [Value.ownBlock])⟩)⟩, ⟨by (with_reducible repeat (first | apply Kd.V_alloc | apply Kd.V_drewN | apply Kd.V_drew)); exact Kd.V_mono (Kd.V_far (p := ⟨gb313, 1, none⟩) (Kd.V_far (p := ⟨gb313, 0, none⟩) (Kd.V_mono HO_6.out (fun k_ hk => (⟨hk, hk.2⟩ : _ ∧ k_ ≠ gb313))) (fun _ hk => hk.2) (.slice Ao7 t305.length co7)) (fun _ hk => hk.2) (.slice none 0 0)) (fun _ hk => ⟨hk.1.1.1, ⟨hk.1.1.2.1, ⟨hk.1.1.2.1, ⟨(by simp [Value.ownBlock]), ⟨hk.1.1.2.2, hk.1.2⟩⟩⟩⟩⟩)⟩, ⟨by (with_reducible repeat (first | apply Kd.R_alloc | apply Kd.R_drewN | apply Kd.R_drew)); exact Kd.R_mono (Kd.R_far (p := ⟨gb313, 1, none⟩) (Kd.R_far (p := ⟨gb313, 0, none⟩) (Kd.R_types HO_5.out BK313.out (by decide)) (fun _ hk => hk.2) (.slice Ao7 t305.length co7)) (fun _ hk => hk.2) (.slice none 0 0)) (fun _ hk => ⟨hk.1, (by simp [Value.ownBlock])⟩)⟩, ⟨by first | exact Kd.R_nil _ _ _ _ _ | exact Kd.N_nil _ _ _ _ _ | exact Kd.V_nil _ _ _ _ _ | exact Kd.Q_nil _ _ _ _ _ | exact Kd.S_nil _ _ _ _ _⟩, ⟨by (with_reducible repeat (first | refine blk_drewN ?_ _ | refine blk_drew ?_ | refine blk_alloc ?_ _)); refine blk_far ?_ NB304_313.out _; (with_reducible repeat (first | refine blk_drewN ?_ _ | refine blk_drew ?_ | refine blk_alloc ?_ _)); refine blk_far ?_ NB304_313.out _; (with_reducible repeat (first | refine blk_drewN ?_ _ | refine blk_drew ?_ | refine blk_alloc ?_ _)); exact BK304.out⟩, ⟨by (with_reducible repeat (first | refine blk_drewN ?_ _ | refine blk_drew ?_ | refine blk_alloc ?_ _)); refine blk_put (cs := #[.slice Ao7 t305.length co7, .slice none 0 0]) ?_ 1 _ rfl; (with_reducible repeat (first | refine blk_drewN ?_ _ | refine blk_drew ?_ | refine blk_alloc ?_ _)); refine blk_put (cs := #[.slice none 0 0, .slice none 0 0]) ?_ 0 _ rfl; (with_reducible repeat (first | refine blk_drewN ?_ _ | refine blk_drew ?_ | refine blk_alloc ?_ _)); exact BK313.out⟩, ⟨by repeat (first | (with_reducible first | exact HB.out | apply below_alloc | apply pw_below_drewN | apply below_drew1 | refine below_set ?_ GE304.out | refine below_set ?_ GE313.out) | exact HB.out)⟩⟩
        case round =>
          clear H'
          try clear c1
          try clear p2
          try clear c3
          try clear c8
          try clear c8b0
          try clear c8b1
          try clear c9
          try clear c12
          try clear hcz10_0
          try clear hcz10_1
          try clear hcz13_0
          try clear hcz13_1
          try clear hfz10_0
          try clear hfz10_1
          try clear hfz13_0
          try clear hfz13_1
          try clear p2
          obtain ⟨x6_2, x10_2, x314001_2, u314001, rfl, HA, HK2, HO_5, HO_6, HO_314000, HO_314001, BK304, BK313, HB⟩ := hrel
          cases gk with
          | zero => exact absurd HA.out (by simp [fullerref09_Take.l0])
          | succ k2 =>
            have H := HA.out
            clear HA
            simp only [fullerref09_Take.l0] at H
            replace H := Option.bind_eq_some_iff.mp H
            obtain ⟨t314, A140, H⟩ := H
            replace H : (if x10_2 < t314 then ((fullerref08_Take.f k2 x6_2 8).bind fun bt315 => (if bt315.2.2 = 0 then (if x314001_2.length < 17592186044416 then (fullerref09_Take.l0 k2 t305 bt315.2.1 (wrap64 (x10_2 + 1)) t305 (x314001_2 ++ [bt315.1])) else (none)) else (some (([] : List Int), ([] : List Int), ([] : List Int), 50)))) else (some (t305, x314001_2, x6_2, 0))) = some (r1, r2, r3, r4) := H
            have A14 := Aside0.mk A140
            clear A140
            by_cases c15 : x10_2 < t314
            · rw [if_pos c15] at H
              have c15b0 : decide (x10_2 < t314) = true := decide_eq_true c15
              clear c15
              replace H := Option.bind_eq_some_iff.mp H
              obtain ⟨⟨t315, t316, t319⟩, A160, H⟩ := H
              replace H : (if t319 = 0 then (if x314001_2.length < 17592186044416 then (fullerref09_Take.l0 k2 t305 t316 (wrap64 (x10_2 + 1)) t305 (x314001_2 ++ [t315])) else (none)) else (some (([] : List Int), ([] : List Int), ([] : List Int), 50))) = some (r1, r2, r3, r4) := H
              have A16 := Aside0.mk A160
              clear A160
              by_cases c17 : t319 = 0
              · rw [if_pos c17] at H
                have c17b0 : (t319 == 0) = true := beq_iff_eq.mpr c17
                have c17b1 : (t319 != 0) = false := bne_eq_false_iff_eq.mpr c17
                clear c17
                by_cases c18 : x314001_2.length < 17592186044416
                · rw [if_pos c18] at H
                  have LMc18 := Aside0.mk c18
                  clear c18
                  obtain ⟨y320, hy320⟩ : ∃ y_ : List Int, y_ = (x314001_2 ++ [t315]) := ⟨_, rfl⟩
                  replace H : (fullerref09_Take.l0 k2 t305 t316 (wrap64 (x10_2 + 1)) t305 y320) = some (r1, r2, r3, r4) := by first | (rw [hy320]; with_reducible exact H) | (have H2_ := (Option.bind_some _ _).symm.trans H; rw [hy320]; with_reducible exact H2_) | (have H2_ := (Option.bind_some _ _).symm.trans H; with_reducible exact H2_) | with_reducible exact H | (rw [hy320]; exact H) | exact H
                  have Ny320 := Aside0.mk hy320
                  clear hy320
                  have H' := Aside0.mk H
                  clear H
                  go_wp2_with (first | ((with_reducible refine gate_callee (f := 33) rfl ?_); refine goesL_ (some 33) rfl rfl Try.func33 (by kernel_rfl) rfl #[.slice Ao7 t305.length co7] rfl (by (try simp only [List.map_toArray, List.map_cons, List.map_nil]); first | done | rfl | (simp only [List.length_drop, List.length_take]; rfl)) ?_; (with_reducible refine (fullerref02_Size.calls k2 _ _ t305 t314 _ ?side1 ?side2 A14.out).mono ?_); (case side1 => exact mvC_ ((Kd.R_reads' HO_5.out).2.2)); (case side2 => exact (Kd.R_reads' HO_5.out).2.1); rintro e w' ⟨rfl, ⟨nd, rfl⟩⟩; refine ⟨_, rfl, ?_⟩; (try (rw [drewN_self wr]; generalize hq_ : World.drewN wr _ = wr; have n0_ : Aside0 (Kd.R (Kd.int .i64) 3 wr w.heap.size (fun k_ => (w.heap.size ≤ k_) ∧ some k_ ≠ (u314001 : Value).ownBlock) (.slice Ao7 t305.length co7) t305) := ⟨by rw [← hq_]; exact (mvR_ HO_314000.out)⟩; have n1_ : Aside0 (Kd.R (Kd.int .i64) 3 wr w.heap.size (fun k_ => (w.heap.size ≤ k_) ∧ some k_ ≠ (.slice Ao7 t305.length co7 : Value).ownBlock ∧ some k_ ≠ (.slice Ao7 t305.length co7 : Value).ownBlock) u314001 x314001_2) := ⟨by rw [← hq_]; exact (by (with_reducible repeat (first | apply Kd.R_alloc | apply Kd.R_drewN | apply Kd.R_drew)); exact Kd.R_mono HO_314001.out (fun _ hk => by first | exact ⟨hk.1, ⟨hk.2.2, hk.2.1⟩⟩ | simp only [hk, ne_eq, not_false_eq_true, and_self, and_true, true_and, true_or, or_true]))⟩; have n2_ : Aside0 (Kd.R (Kd.int .i64) 3 wr w.heap.size (fun k_ => (w.heap.size ≤ k_) ∧ some k_ ≠ (u314001 : Value).ownBlock) (.slice Ao7 t305.length co7) t305) := ⟨by rw [← hq_]; exact (mvR_ HO_5.out)⟩; have n3_ : Aside0 (Kd.V (Kd.int .u8) 5 wr w.heap.size (fun k_ => (P0_ k_ ∨ w.heap.size ≤ k_) ∧ some k_ ≠ (.slice Ao7 t305.length co7 : Value).ownBlock ∧ some k_ ≠ (u314001 : Value).ownBlock ∧ some k_ ≠ (.slice Ao7 t305.length co7 : Value).ownBlock ∧ k_ ≠ gb304 ∧ k_ ≠ gb313) u6 x6_2) := ⟨by rw [← hq_]; exact (by (with_reducible repeat (first | apply Kd.V_alloc | apply Kd.V_drewN | apply Kd.V_drew)); exact Kd.V_mono HO_6.out (fun _ hk => by first | exact ⟨hk.1, ⟨hk.2.2.1, ⟨hk.2.2.2.1, ⟨hk.2.1, ⟨hk.2.2.2.2.1, hk.2.2.2.2.2⟩⟩⟩⟩⟩ | simp only [hk, ne_eq, not_false_eq_true, and_self, and_true, true_and, true_or, or_true]))⟩; have n4_ : Aside0 (wr.heap[gb304]? = some (.cells #[.slice none 0 0, .slice none 0 0] 26 (0, 0))) := ⟨by rw [← hq_]; exact (mvK_ BK304.out)⟩; have n5_ : Aside0 (wr.heap[gb313]? = some (.cells #[.slice Ao7 t305.length co7, u314001] 26 (0, 0))) := ⟨by rw [← hq_]; exact (mvK_ BK313.out)⟩; have n6_ : Aside0 (Below w.heap.size w wr) := ⟨by rw [← hq_]; exact (bq2_ HB.out GE304.out GE313.out)⟩; clear HO_314000 HO_314001 HO_5 HO_6 BK304 BK313 HB hq_; have HO_314000 := n0_; have HO_314001 := n1_; have HO_5 := n2_; have HO_6 := n3_; have BK304 := n4_; have BK313 := n5_; have HB := n6_; clear n0_ n1_ n2_ n3_ n4_ n5_ n6_)); obtain ⟨Ao19, co19, eo19⟩ := Kd.V_slice HO_6.out; subst eo19) | ((with_reducible refine gate_callee (f := 34) rfl ?_); refine goesL_ (some 39) rfl rfl Try.func34 (by kernel_rfl) rfl #[.slice Ao19 x6_2.length co19, .int .i64 8] rfl (by (try simp only [List.map_toArray, List.map_cons, List.map_nil]); first | done | rfl | (simp only [List.length_drop, List.length_take]; rfl)) ?_; (with_reducible refine (fullerref08_Take.calls k2 (fun k_ => ((P0_ k_ ∨ w.heap.size ≤ k_) ∧ (some k_ ≠ (.slice Ao7 t305.length co7 : Value).ownBlock ∧ (some k_ ≠ (.slice Ao7 t305.length co7 : Value).ownBlock ∧ (some k_ ≠ (u314001 : Value).ownBlock ∧ (k_ ≠ gb304 ∧ k_ ≠ gb313)))))) _ _ x6_2 8 t315 t316 t319 _ ?side1 A16.out).mono ?_); (case side1 => first | exact HO_6.out | exact Kd.V_mono HO_6.out (fun _ h_ => by simpa only [and_assoc, and_comm, and_left_comm] using h_)); rintro e w20 ⟨v317, rfl, ho0, hb⟩; refine ⟨_, rfl, ?_⟩; have n0_ := Aside0.mk (Kd.R_below (mvR_ HO_5.out) hb); have n1_ := Aside0.mk (Kd.V_below (mvV_ HO_6.out) hb); have n2_ := Aside0.mk (Kd.R_below (mvR_ HO_314000.out) hb); have n3_ := Aside0.mk (Kd.R_below (mvR_ HO_314001.out) hb); have n4_ := Aside0.mk (Kd.V_lower (Kd.V_mono (ok' := fun k_ => (P0_ k_ ∨ w.heap.size ≤ k_) ∧ some k_ ≠ (.slice Ao7 t305.length co7 : Value).ownBlock ∧ some k_ ≠ (.slice Ao7 t305.length co7 : Value).ownBlock ∧ some k_ ≠ (u314001 : Value).ownBlock ∧ k_ ≠ gb304 ∧ k_ ≠ gb313) ho0 (fun k_ hk_ => ⟨Or.elim hk_ (fun hs_ => hs_.1) (fun hn_ => (.inr (Nat.le_trans (below_size (bq2_ HB.out GE304.out GE313.out)) hn_))), Or.elim hk_ (fun hs_ => hs_.2.1) (fun hn_ => (Kd.fresh' (Kd.R_lt (mvR_ HO_5.out)) k_ hn_)), Or.elim hk_ (fun hs_ => hs_.2.2.1) (fun hn_ => (Kd.fresh' (Kd.R_lt (mvR_ HO_314000.out)) k_ hn_)), Or.elim hk_ (fun hs_ => hs_.2.2.2.1) (fun hn_ => (Kd.fresh' (Kd.R_lt (mvR_ HO_314001.out)) k_ hn_)), Or.elim hk_ (fun hs_ => hs_.2.2.2.2.1) (fun hn_ => (Kd.freshB (g := gb304) (o := .cells #[.slice none 0 0, .slice none 0 0] 26 (0, 0)) (mvK_ BK304.out) k_ hn_)), Or.elim hk_ (fun hs_ => hs_.2.2.2.2.2) (fun hn_ => (Kd.freshB (g := gb313) (o := .cells #[.slice Ao7 t305.length co7, u314001] 26 (0, 0)) (mvK_ BK313.out) k_ hn_))⟩)) (below_size (bq2_ HB.out GE304.out GE313.out))); have n5_ := Aside0.mk (blk_below (g := gb304) (o := .cells #[.slice none 0 0, .slice none 0 0] 26 (0, 0)) (mvK_ BK304.out) hb); have n6_ := Aside0.mk (blk_below (g := gb313) (o := .cells #[.slice Ao7 t305.length co7, u314001] 26 (0, 0)) (mvK_ BK313.out) hb); have n7_ := Aside0.mk (below_step (bq2_ HB.out GE304.out GE313.out) hb); clear HO_5; clear HO_6; clear HO_314000; clear HO_314001; clear BK304; clear BK313; clear HB; have HO_5 := n0_; have HO_6 := n1_; have HO_314000 := n2_; have HO_314001 := n3_; have HO318 := n4_; have BK304 := n5_; have BK313 := n6_; have HB := n7_; clear n0_ n1_ n2_ n3_ n4_ n5_ n6_ n7_; (try clear hb); (try clear ho0); have hnb21 := NB313_304.out; have hnc21 := NB304_313.out; have hcz22_0 : w20.cell? ⟨gb313, 0, none⟩ = some (.slice Ao7 t305.length co7) := (blk_cell BK313.out 0).trans rfl; have hcz22_1 : w20.cell? ⟨gb313, 1, none⟩ = some (u314001) := (blk_cell BK313.out 1).trans rfl; have hfz22_0 := blk_frozen BK313.out 0; have hfz22_1 := blk_frozen BK313.out 1) | ((with_reducible refine gate_builtin (b := .append) (xs := #[.tmp 47, .tmp 49]) rfl ?_); at_builtin; refine Kd.R_append (Kd.int .i64) (w0 := w) w.heap.size rfl (.tmp 47) (.tmp 49) 24 3 (.int .i64 0) 8 rfl Try.underlying24 info3 rfl (by decide) (by omega) u314001 x314001_2 t315 [.int .i64 t315] (fun k_ => (w.heap.size ≤ k_) ∧ some k_ ≠ (.slice Ao7 t305.length co7 : Value).ownBlock ∧ some k_ ≠ (.slice Ao7 t305.length co7 : Value).ownBlock) (fun _ => False) rfl rfl ?aP (fun _ hk => hk.elim) ?aF ?aO ?aB ?aS ?aL ?_; (case aP => exact rfl); (case aB => exact (bq2_ HB.out GE304.out GE313.out)); (case aF => exact (fun k_ hk => ⟨(Nat.le_trans (below_size (bq2_ HB.out GE304.out GE313.out)) hk), Kd.fresh' (Kd.R_lt (mvR_ HO_5.out)) k_ hk, Kd.fresh' (Kd.R_lt (mvR_ HO_314000.out)) k_ hk⟩)); (case aO => exact (mvR_ HO_314001.out)); (case aS => exact (below_size (bq2_ HB.out GE304.out GE313.out))); (case aL => have := LMc18.out; omega); intro v321 w23 ho hb hg hat; rw [← Ny320.out] at ho; have n0_ := Aside0.mk (Kd.R_after (ok := (fun k_ => (w.heap.size ≤ k_))) (mvR_ HO_5.out) hg hat); have n1_ := Aside0.mk (Kd.V_afterv (ok := (fun k_ => (P0_ k_ ∨ w.heap.size ≤ k_) ∧ some k_ ≠ (.slice Ao7 t305.length co7 : Value).ownBlock ∧ some k_ ≠ (.slice Ao7 t305.length co7 : Value).ownBlock ∧ k_ ≠ gb304 ∧ k_ ≠ gb313)) (by (with_reducible repeat (first | apply Kd.V_alloc | apply Kd.V_drewN | apply Kd.V_drew)); exact Kd.V_mono HO_6.out (fun _ hk => by first | exact ⟨⟨hk.1, ⟨hk.2.1, ⟨hk.2.2.1, ⟨hk.2.2.2.2.1, hk.2.2.2.2.2⟩⟩⟩⟩, hk.2.2.2.1⟩ | simp only [hk, ne_eq, not_false_eq_true, and_self, and_true, true_and, true_or, or_true])) hg hat); have n2_ := Aside0.mk (Kd.R_after (ok := (fun k_ => (w.heap.size ≤ k_))) (mvR_ HO_314000.out) hg hat); have n3_ := Aside0.mk (blk_grown (g := gb304) (o := .cells #[.slice none 0 0, .slice none 0 0] 26 (0, 0)) (mvK_ BK304.out) hg (Kd.R_ne HO_314001.out BK304.out (by decide))); have n4_ := Aside0.mk (blk_grown (g := gb313) (o := .cells #[.slice Ao7 t305.length co7, u314001] 26 (0, 0)) (mvK_ BK313.out) hg (Kd.R_ne HO_314001.out BK313.out (by decide))); have n5_ := Aside0.mk (Kd.V_afterv (ok := (fun k_ => (P0_ k_ ∨ w.heap.size ≤ k_) ∧ some k_ ≠ (.slice Ao7 t305.length co7 : Value).ownBlock ∧ some k_ ≠ (.slice Ao7 t305.length co7 : Value).ownBlock ∧ k_ ≠ gb304 ∧ k_ ≠ gb313)) (by (with_reducible repeat (first | apply Kd.V_alloc | apply Kd.V_drewN | apply Kd.V_drew)); exact Kd.V_mono HO318.out (fun _ hk => by first | exact ⟨⟨hk.1, ⟨hk.2.1, ⟨hk.2.2.1, ⟨hk.2.2.2.2.1, hk.2.2.2.2.2⟩⟩⟩⟩, hk.2.2.2.1⟩ | simp only [hk, ne_eq, not_false_eq_true, and_self, and_true, true_and, true_or, or_true])) hg hat); have n6_ := Aside0.mk (hb); have n7_ := Aside0.mk (ho); clear HO_5; clear HO_6; clear HO_314000; clear BK304; clear BK313; clear HO318; clear HB; clear HO_314001; have HO_5 := n0_; have HO_6 := n1_; have HO_314000 := n2_; have BK304 := n3_; have BK313 := n4_; have HO318 := n5_; have HB := n6_; have HO322 := n7_; clear n0_ n1_ n2_ n3_ n4_ n5_ n6_ n7_; clear ho hb hg hat; obtain ⟨Ao24, co24, eo24⟩ := Kd.R_slice HO322.out; subst eo24; have hcz25_0 : w23.cell? ⟨gb313, 0, none⟩ = some (.slice Ao7 t305.length co7) := (blk_cell BK313.out 0).trans rfl; have hcz25_1 : w23.cell? ⟨gb313, 1, none⟩ = some (u314001) := (blk_cell BK313.out 1).trans rfl; have hfz25_0 := blk_frozen BK313.out 0; have hfz25_1 := blk_frozen BK313.out 1))
                  go_roundg k2
                  case measure => have := HJ3.out; have := HK2.out; omega
                  case rel => exact ⟨(t316), (wrap64 (x10_2 + 1)), (y320), (.slice Ao24 y320.length co24), (by first | rfl | (simp; done) | (simp [*]; done)), H', ⟨by have := HJ3.out; have := HK2.out; omega⟩, ⟨by (with_reducible repeat (first | apply Kd.R_alloc | apply Kd.R_drewN | apply Kd.R_drew)); exact Kd.R_mono (Kd.R_far (p := ⟨gb313, 1, none⟩) (Kd.R_types HO_5.out BK313.out (by decide)) (fun _ hk => hk.2) (.slice Ao24 y320.length co24)) (fun _ hk => by first | exact ⟨hk.1.1, hk.1.2⟩ | simp only [hk, ne_eq, not_false_eq_true, and_self, and_true, true_and, true_or, or_true])⟩, ⟨by (with_reducible repeat (first | apply Kd.V_alloc | apply Kd.V_drewN | apply Kd.V_drew)); exact Kd.V_mono (Kd.V_far (p := ⟨gb313, 1, none⟩) (Kd.V_mono HO318.out (fun k_ hk => (⟨hk, hk.1.2.2.2.2⟩ : _ ∧ k_ ≠ gb313))) (fun _ hk => hk.2) (.slice Ao24 y320.length co24)) (fun _ hk => by first | exact ⟨hk.1.1.1, ⟨hk.1.1.2.1, ⟨hk.1.1.2.2.1, ⟨hk.1.2, ⟨hk.1.1.2.2.2.1, hk.1.1.2.2.2.2⟩⟩⟩⟩⟩ | simp only [hk, ne_eq, not_false_eq_true, and_self, and_true, true_and, true_or, or_true])⟩, ⟨by (with_reducible repeat (first | apply Kd.R_alloc | apply Kd.R_drewN | apply Kd.R_drew)); exact Kd.R_mono (Kd.R_far (p := ⟨gb313, 1, none⟩) (Kd.R_types HO_314000.out BK313.out (by decide)) (fun _ hk => hk.2) (.slice Ao24 y320.length co24)) (fun _ hk => by first | exact ⟨hk.1.1, hk.1.2⟩ | simp only [hk, ne_eq, not_false_eq_true, and_self, and_true, true_and, true_or, or_true])⟩, ⟨by (with_reducible repeat (first | apply Kd.R_alloc | apply Kd.R_drewN | apply Kd.R_drew)); exact Kd.R_mono (Kd.R_far (p := ⟨gb313, 1, none⟩) (Kd.R_types HO322.out BK313.out (by decide)) (fun _ hk => hk.2) (.slice Ao24 y320.length co24)) (fun _ hk => by first | exact ⟨hk.1.1, ⟨hk.1.2.1, hk.1.2.2⟩⟩ | simp only [hk, ne_eq, not_false_eq_true, and_self, and_true, true_and, true_or, or_true])⟩, ⟨by (with_reducible repeat (first | refine blk_drewN ?_ _ | refine blk_drew ?_ | refine blk_alloc ?_ _)); refine blk_far ?_ NB304_313.out _; (with_reducible repeat (first | refine blk_drewN ?_ _ | refine blk_drew ?_ | refine blk_alloc ?_ _)); exact BK304.out⟩, ⟨by (with_reducible repeat (first | refine blk_drewN ?_ _ | refine blk_drew ?_ | refine blk_alloc ?_ _)); refine blk_put (cs := #[.slice Ao7 t305.length co7, u314001]) ?_ 1 _ rfl; (with_reducible repeat (first | refine blk_drewN ?_ _ | refine blk_drew ?_ | refine blk_alloc ?_ _)); exact BK313.out⟩, ⟨by repeat (first | (with_reducible first | exact HB.out | apply below_alloc | apply pw_below_drewN | apply below_drew1 | refine below_set ?_ GE304.out | refine below_set ?_ GE313.out) | exact HB.out)⟩⟩
                · rw [if_neg c18] at H
                  exact absurd H (by simp)
              · rw [if_neg c17] at H
                have c17b0 : (t319 == 0) = false := beq_eq_false_iff_ne.mpr c17
                have c17b1 : (t319 != 0) = true := bne_iff_ne.mpr c17
                simp only [Option.some.injEq, Prod.mk.injEq] at H
                obtain ⟨rfl, rfl, rfl, rfl⟩ := H
                go_wp2_with (first | ((with_reducible refine gate_callee (f := 33) rfl ?_); refine goesL_ (some 33) rfl rfl Try.func33 (by kernel_rfl) rfl #[.slice Ao7 t305.length co7] rfl (by (try simp only [List.map_toArray, List.map_cons, List.map_nil]); first | done | rfl | (simp only [List.length_drop, List.length_take]; rfl)) ?_; (with_reducible refine (fullerref02_Size.calls k2 _ _ t305 t314 _ ?side1 ?side2 A14.out).mono ?_); (case side1 => exact mvC_ ((Kd.R_reads' HO_5.out).2.2)); (case side2 => exact (Kd.R_reads' HO_5.out).2.1); rintro e w' ⟨rfl, ⟨nd, rfl⟩⟩; refine ⟨_, rfl, ?_⟩; (try (rw [drewN_self wr]; generalize hq_ : World.drewN wr _ = wr; have n0_ : Aside0 (Kd.R (Kd.int .i64) 3 wr w.heap.size (fun k_ => (w.heap.size ≤ k_) ∧ some k_ ≠ (u314001 : Value).ownBlock) (.slice Ao7 t305.length co7) t305) := ⟨by rw [← hq_]; exact (mvR_ HO_314000.out)⟩; have n1_ : Aside0 (Kd.R (Kd.int .i64) 3 wr w.heap.size (fun k_ => (w.heap.size ≤ k_) ∧ some k_ ≠ (.slice Ao7 t305.length co7 : Value).ownBlock ∧ some k_ ≠ (.slice Ao7 t305.length co7 : Value).ownBlock) u314001 x314001_2) := ⟨by rw [← hq_]; exact (by (with_reducible repeat (first | apply Kd.R_alloc | apply Kd.R_drewN | apply Kd.R_drew)); exact Kd.R_mono HO_314001.out (fun _ hk => by first | exact ⟨hk.1, ⟨hk.2.2, hk.2.1⟩⟩ | simp only [hk, ne_eq, not_false_eq_true, and_self, and_true, true_and, true_or, or_true]))⟩; have n2_ : Aside0 (Kd.R (Kd.int .i64) 3 wr w.heap.size (fun k_ => (w.heap.size ≤ k_) ∧ some k_ ≠ (u314001 : Value).ownBlock) (.slice Ao7 t305.length co7) t305) := ⟨by rw [← hq_]; exact (mvR_ HO_5.out)⟩; have n3_ : Aside0 (Kd.V (Kd.int .u8) 5 wr w.heap.size (fun k_ => (P0_ k_ ∨ w.heap.size ≤ k_) ∧ some k_ ≠ (.slice Ao7 t305.length co7 : Value).ownBlock ∧ some k_ ≠ (u314001 : Value).ownBlock ∧ some k_ ≠ (.slice Ao7 t305.length co7 : Value).ownBlock ∧ k_ ≠ gb304 ∧ k_ ≠ gb313) u6 x6_2) := ⟨by rw [← hq_]; exact (by (with_reducible repeat (first | apply Kd.V_alloc | apply Kd.V_drewN | apply Kd.V_drew)); exact Kd.V_mono HO_6.out (fun _ hk => by first | exact ⟨hk.1, ⟨hk.2.2.1, ⟨hk.2.2.2.1, ⟨hk.2.1, ⟨hk.2.2.2.2.1, hk.2.2.2.2.2⟩⟩⟩⟩⟩ | simp only [hk, ne_eq, not_false_eq_true, and_self, and_true, true_and, true_or, or_true]))⟩; have n4_ : Aside0 (wr.heap[gb304]? = some (.cells #[.slice none 0 0, .slice none 0 0] 26 (0, 0))) := ⟨by rw [← hq_]; exact (mvK_ BK304.out)⟩; have n5_ : Aside0 (wr.heap[gb313]? = some (.cells #[.slice Ao7 t305.length co7, u314001] 26 (0, 0))) := ⟨by rw [← hq_]; exact (mvK_ BK313.out)⟩; have n6_ : Aside0 (Below w.heap.size w wr) := ⟨by rw [← hq_]; exact (bq2_ HB.out GE304.out GE313.out)⟩; clear HO_314000 HO_314001 HO_5 HO_6 BK304 BK313 HB hq_; have HO_314000 := n0_; have HO_314001 := n1_; have HO_5 := n2_; have HO_6 := n3_; have BK304 := n4_; have BK313 := n5_; have HB := n6_; clear n0_ n1_ n2_ n3_ n4_ n5_ n6_)); obtain ⟨Ao26, co26, eo26⟩ := Kd.V_slice HO_6.out; subst eo26) | ((with_reducible refine gate_callee (f := 34) rfl ?_); refine goesL_ (some 39) rfl rfl Try.func34 (by kernel_rfl) rfl #[.slice Ao26 x6_2.length co26, .int .i64 8] rfl (by (try simp only [List.map_toArray, List.map_cons, List.map_nil]); first | done | rfl | (simp only [List.length_drop, List.length_take]; rfl)) ?_; (with_reducible refine (fullerref08_Take.calls k2 (fun k_ => ((P0_ k_ ∨ w.heap.size ≤ k_) ∧ (some k_ ≠ (.slice Ao7 t305.length co7 : Value).ownBlock ∧ (some k_ ≠ (.slice Ao7 t305.length co7 : Value).ownBlock ∧ (some k_ ≠ (u314001 : Value).ownBlock ∧ (k_ ≠ gb304 ∧ k_ ≠ gb313)))))) _ _ x6_2 8 t315 t316 t319 _ ?side1 A16.out).mono ?_); (case side1 => first | exact HO_6.out | exact Kd.V_mono HO_6.out (fun _ h_ => by simpa only [and_assoc, and_comm, and_left_comm] using h_)); rintro e w27 ⟨v317, rfl, ho0, hb⟩; refine ⟨_, rfl, ?_⟩; have n0_ := Aside0.mk (Kd.R_below (mvR_ HO_5.out) hb); have n1_ := Aside0.mk (Kd.V_below (mvV_ HO_6.out) hb); have n2_ := Aside0.mk (Kd.R_below (mvR_ HO_314000.out) hb); have n3_ := Aside0.mk (Kd.R_below (mvR_ HO_314001.out) hb); have n4_ := Aside0.mk (Kd.V_lower (Kd.V_mono (ok' := fun k_ => (P0_ k_ ∨ w.heap.size ≤ k_) ∧ some k_ ≠ (.slice Ao7 t305.length co7 : Value).ownBlock ∧ some k_ ≠ (.slice Ao7 t305.length co7 : Value).ownBlock ∧ some k_ ≠ (u314001 : Value).ownBlock ∧ k_ ≠ gb304 ∧ k_ ≠ gb313) ho0 (fun k_ hk_ => ⟨Or.elim hk_ (fun hs_ => hs_.1) (fun hn_ => (.inr (Nat.le_trans (below_size (bq2_ HB.out GE304.out GE313.out)) hn_))), Or.elim hk_ (fun hs_ => hs_.2.1) (fun hn_ => (Kd.fresh' (Kd.R_lt (mvR_ HO_5.out)) k_ hn_)), Or.elim hk_ (fun hs_ => hs_.2.2.1) (fun hn_ => (Kd.fresh' (Kd.R_lt (mvR_ HO_314000.out)) k_ hn_)), Or.elim hk_ (fun hs_ => hs_.2.2.2.1) (fun hn_ => (Kd.fresh' (Kd.R_lt (mvR_ HO_314001.out)) k_ hn_)), Or.elim hk_ (fun hs_ => hs_.2.2.2.2.1) (fun hn_ => (Kd.freshB (g := gb304) (o := .cells #[.slice none 0 0, .slice none 0 0] 26 (0, 0)) (mvK_ BK304.out) k_ hn_)), Or.elim hk_ (fun hs_ => hs_.2.2.2.2.2) (fun hn_ => (Kd.freshB (g := gb313) (o := .cells #[.slice Ao7 t305.length co7, u314001] 26 (0, 0)) (mvK_ BK313.out) k_ hn_))⟩)) (below_size (bq2_ HB.out GE304.out GE313.out))); have n5_ := Aside0.mk (blk_below (g := gb304) (o := .cells #[.slice none 0 0, .slice none 0 0] 26 (0, 0)) (mvK_ BK304.out) hb); have n6_ := Aside0.mk (blk_below (g := gb313) (o := .cells #[.slice Ao7 t305.length co7, u314001] 26 (0, 0)) (mvK_ BK313.out) hb); have n7_ := Aside0.mk (below_step (bq2_ HB.out GE304.out GE313.out) hb); clear HO_5; clear HO_6; clear HO_314000; clear HO_314001; clear BK304; clear BK313; clear HB; have HO_5 := n0_; have HO_6 := n1_; have HO_314000 := n2_; have HO_314001 := n3_; have HO318 := n4_; have BK304 := n5_; have BK313 := n6_; have HB := n7_; clear n0_ n1_ n2_ n3_ n4_ n5_ n6_ n7_; (try clear hb); (try clear ho0); have hnb28 := NB304_313.out; have hnc28 := NB313_304.out; have hcz29_0 : w27.cell? ⟨gb304, 0, none⟩ = some (.slice none 0 0) := (blk_cell BK304.out 0).trans rfl; have hcz29_1 : w27.cell? ⟨gb304, 1, none⟩ = some (.slice none 0 0) := (blk_cell BK304.out 1).trans rfl; have hfz29_0 := blk_frozen BK304.out 0; have hfz29_1 := blk_frozen BK304.out 1))
                refine bodyPost_ret (results_ctt rfl _ _ gb304 26 #[.slice none 0 0, .slice none 0 0] (0, 0) _ rfl (by (with_reducible repeat (first | refine blk_drewN ?_ _ | refine blk_drew ?_ | refine blk_alloc ?_ _)); refine blk_put (cs := #[.slice none 0 0, .slice none 0 0]) ?_ 1 _ rfl; (with_reducible repeat (first | refine blk_drewN ?_ _ | refine blk_drew ?_ | refine blk_alloc ?_ _)); refine blk_put (cs := #[.slice none 0 0, .slice none 0 0]) ?_ 0 _ rfl; (with_reducible repeat (first | refine blk_drewN ?_ _ | refine blk_drew ?_ | refine blk_alloc ?_ _)); exact BK304.out) Try.underlying26 rfl (by kernel_rfl)) rfl ?_
                exact ⟨_, _, _, by first | rfl | (simp [errW_none, errW_some] <;> rfl) | (simp [*, errW_none, errW_some] <;> rfl), by first | exact Kd.R_nil _ _ _ _ _ | exact Kd.N_nil _ _ _ _ _ | exact Kd.V_nil _ _ _ _ _ | exact Kd.Q_nil _ _ _ _ _ | exact Kd.S_nil _ _ _ _ _, by first | exact Kd.R_nil _ _ _ _ _ | exact Kd.N_nil _ _ _ _ _ | exact Kd.V_nil _ _ _ _ _ | exact Kd.Q_nil _ _ _ _ _ | exact Kd.S_nil _ _ _ _ _, (Kd.V_nil _ _ _ _ _), by repeat (first | (with_reducible first | exact HB.out | apply below_alloc | apply pw_below_drewN | apply below_drew1 | refine below_set ?_ GE304.out | refine below_set ?_ GE313.out) | exact HB.out)⟩
            · rw [if_neg c15] at H
              have c15b0 : decide (x10_2 < t314) = false := decide_eq_false c15
              clear c15
              simp only [Option.some.injEq, Prod.mk.injEq] at H
              obtain ⟨rfl, rfl, rfl, rfl⟩ := H
              go_wp2_with (first | ((with_reducible refine gate_callee (f := 33) rfl ?_); refine goesL_ (some 33) rfl rfl Try.func33 (by kernel_rfl) rfl #[.slice Ao7 t305.length co7] rfl (by (try simp only [List.map_toArray, List.map_cons, List.map_nil]); first | done | rfl | (simp only [List.length_drop, List.length_take]; rfl)) ?_; (with_reducible refine (fullerref02_Size.calls k2 _ _ t305 t314 _ ?side1 ?side2 A14.out).mono ?_); (case side1 => exact mvC_ ((Kd.R_reads' HO_5.out).2.2)); (case side2 => exact (Kd.R_reads' HO_5.out).2.1); rintro e w' ⟨rfl, ⟨nd, rfl⟩⟩; refine ⟨_, rfl, ?_⟩; (try (rw [drewN_self wr]; generalize hq_ : World.drewN wr _ = wr; have n0_ : Aside0 (Kd.R (Kd.int .i64) 3 wr w.heap.size (fun k_ => (w.heap.size ≤ k_) ∧ some k_ ≠ (u314001 : Value).ownBlock) (.slice Ao7 t305.length co7) t305) := ⟨by rw [← hq_]; exact (mvR_ HO_314000.out)⟩; have n1_ : Aside0 (Kd.R (Kd.int .i64) 3 wr w.heap.size (fun k_ => (w.heap.size ≤ k_) ∧ some k_ ≠ (.slice Ao7 t305.length co7 : Value).ownBlock ∧ some k_ ≠ (.slice Ao7 t305.length co7 : Value).ownBlock) u314001 x314001_2) := ⟨by rw [← hq_]; exact (by (with_reducible repeat (first | apply Kd.R_alloc | apply Kd.R_drewN | apply Kd.R_drew)); exact Kd.R_mono HO_314001.out (fun _ hk => by first | exact ⟨hk.1, ⟨hk.2.2, hk.2.1⟩⟩ | simp only [hk, ne_eq, not_false_eq_true, and_self, and_true, true_and, true_or, or_true]))⟩; have n2_ : Aside0 (Kd.R (Kd.int .i64) 3 wr w.heap.size (fun k_ => (w.heap.size ≤ k_) ∧ some k_ ≠ (u314001 : Value).ownBlock) (.slice Ao7 t305.length co7) t305) := ⟨by rw [← hq_]; exact (mvR_ HO_5.out)⟩; have n3_ : Aside0 (Kd.V (Kd.int .u8) 5 wr w.heap.size (fun k_ => (P0_ k_ ∨ w.heap.size ≤ k_) ∧ some k_ ≠ (.slice Ao7 t305.length co7 : Value).ownBlock ∧ some k_ ≠ (u314001 : Value).ownBlock ∧ some k_ ≠ (.slice Ao7 t305.length co7 : Value).ownBlock ∧ k_ ≠ gb304 ∧ k_ ≠ gb313) u6 x6_2) := ⟨by rw [← hq_]; exact (by (with_reducible repeat (first | apply Kd.V_alloc | apply Kd.V_drewN | apply Kd.V_drew)); exact Kd.V_mono HO_6.out (fun _ hk => by first | exact ⟨hk.1, ⟨hk.2.2.1, ⟨hk.2.2.2.1, ⟨hk.2.1, ⟨hk.2.2.2.2.1, hk.2.2.2.2.2⟩⟩⟩⟩⟩ | simp only [hk, ne_eq, not_false_eq_true, and_self, and_true, true_and, true_or, or_true]))⟩; have n4_ : Aside0 (wr.heap[gb304]? = some (.cells #[.slice none 0 0, .slice none 0 0] 26 (0, 0))) := ⟨by rw [← hq_]; exact (mvK_ BK304.out)⟩; have n5_ : Aside0 (wr.heap[gb313]? = some (.cells #[.slice Ao7 t305.length co7, u314001] 26 (0, 0))) := ⟨by rw [← hq_]; exact (mvK_ BK313.out)⟩; have n6_ : Aside0 (Below w.heap.size w wr) := ⟨by rw [← hq_]; exact (bq2_ HB.out GE304.out GE313.out)⟩; clear HO_314000 HO_314001 HO_5 HO_6 BK304 BK313 HB hq_; have HO_314000 := n0_; have HO_314001 := n1_; have HO_5 := n2_; have HO_6 := n3_; have BK304 := n4_; have BK313 := n5_; have HB := n6_; clear n0_ n1_ n2_ n3_ n4_ n5_ n6_)); have hnb30 := NB313_304.out; have hnc30 := NB304_313.out; have hcz31_0 : wr.cell? ⟨gb313, 0, none⟩ = some (.slice Ao7 t305.length co7) := (blk_cell BK313.out 0).trans rfl; have hcz31_1 : wr.cell? ⟨gb313, 1, none⟩ = some (u314001) := (blk_cell BK313.out 1).trans rfl; have hfz31_0 := blk_frozen BK313.out 0; have hfz31_1 := blk_frozen BK313.out 1; have hcz32_0 : wr.cell? ⟨gb304, 0, none⟩ = some (.slice none 0 0) := (blk_cell BK304.out 0).trans rfl; have hcz32_1 : wr.cell? ⟨gb304, 1, none⟩ = some (.slice none 0 0) := (blk_cell BK304.out 1).trans rfl; have hfz32_0 := blk_frozen BK304.out 0; have hfz32_1 := blk_frozen BK304.out 1; obtain ⟨Ao33, co33, eo33⟩ := Kd.R_slice HO_314001.out; subst eo33))
              refine bodyPost_ret (results_ctt rfl _ _ gb304 26 #[.slice Ao7 t305.length co7, .slice Ao33 x314001_2.length co33] (0, 0) _ rfl (by (with_reducible repeat (first | refine blk_drewN ?_ _ | refine blk_drew ?_ | refine blk_alloc ?_ _)); refine blk_put (cs := #[.slice Ao7 t305.length co7, .slice none 0 0]) ?_ 1 _ rfl; (with_reducible repeat (first | refine blk_drewN ?_ _ | refine blk_drew ?_ | refine blk_alloc ?_ _)); refine blk_put (cs := #[.slice none 0 0, .slice none 0 0]) ?_ 0 _ rfl; (with_reducible repeat (first | refine blk_drewN ?_ _ | refine blk_drew ?_ | refine blk_alloc ?_ _)); exact BK304.out) Try.underlying26 rfl (by kernel_rfl)) rfl ?_
              exact ⟨_, _, _, by first | rfl | (simp [errW_none, errW_some] <;> rfl) | (simp [*, errW_none, errW_some] <;> rfl), by (with_reducible repeat (first | apply Kd.R_alloc | apply Kd.R_drewN | apply Kd.R_drew)); exact Kd.R_mono (Kd.R_far (p := ⟨gb304, 1, none⟩) (Kd.R_far (p := ⟨gb304, 0, none⟩) (Kd.R_types HO_314000.out BK304.out (by decide)) (fun _ hk => hk.2) (.slice Ao7 t305.length co7)) (fun _ hk => hk.2) (.slice Ao33 x314001_2.length co33)) (fun _ hk => by first | exact ⟨hk.1.1, hk.1.2⟩ | simp only [hk, ne_eq, not_false_eq_true, and_self, and_true, true_and, true_or, or_true]), by (with_reducible repeat (first | apply Kd.R_alloc | apply Kd.R_drewN | apply Kd.R_drew)); exact Kd.R_mono (Kd.R_far (p := ⟨gb304, 1, none⟩) (Kd.R_far (p := ⟨gb304, 0, none⟩) (Kd.R_types HO_314001.out BK304.out (by decide)) (fun _ hk => hk.2) (.slice Ao7 t305.length co7)) (fun _ hk => hk.2) (.slice Ao33 x314001_2.length co33)) (fun _ hk => by first | exact ⟨hk.1.1, hk.1.2.2⟩ | simp only [hk, ne_eq, not_false_eq_true, and_self, and_true, true_and, true_or, or_true]), by (with_reducible repeat (first | apply Kd.V_alloc | apply Kd.V_drewN | apply Kd.V_drew)); exact Kd.V_mono (Kd.V_far (p := ⟨gb304, 1, none⟩) (Kd.V_far (p := ⟨gb304, 0, none⟩) (Kd.V_mono HO_6.out (fun k_ hk => (⟨hk, hk.2.2.2.2.1⟩ : _ ∧ k_ ≠ gb304))) (fun _ hk => hk.2) (.slice Ao7 t305.length co7)) (fun _ hk => hk.2) (.slice Ao33 x314001_2.length co33)) (fun _ hk => by first | exact ⟨hk.1.1, ⟨hk.1.2.2.1, hk.1.2.2.2.1⟩⟩ | simp only [hk, ne_eq, not_false_eq_true, and_self, and_true, true_and, true_or, or_true]), by repeat (first | (with_reducible first | exact HB.out | apply below_alloc | apply pw_below_drewN | apply below_drew1 | refine below_set ?_ GE304.out | refine below_set ?_ GE313.out) | exact HB.out)⟩

end Go.Proofs.Ytfoffgbhfokccaa.A
