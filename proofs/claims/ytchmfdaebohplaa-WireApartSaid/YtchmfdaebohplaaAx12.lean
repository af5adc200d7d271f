/- Lean functions that answer as the Go functions do, and the proofs that they do; no conditions. Written by this session's own driver: a scratch copy of the kit's print with the session's additions (wip/xprint). -/
import Derived.Test.YtchmfdaebohplaaAx0
import Derived.Test.YtchmfdaebohplaaAx4
import Derived.Test.YtchmfdaebohplaaAx5
import Derived.Test.YtchmfdaebohplaaAx6
import Derived.Test.YtchmfdaebohplaaAx11
namespace Go.Proofs.Ytchmfdaebohplaa.A
open Go.RowKit Go.Proofs.YtchmfdaebohplaaW.PrintWords Go.Proofs.YtchmfdaebohplaaW.PrintLast Go.Proofs.YtchmfdaebohplaaW.PrintMore
attribute [local go_sem] max2_int min2_int max_two min_two max_three min_three max_four min_four   -- for this text's walks alone
set_option linter.unusedVariables false
set_option linter.unusedSimpArgs false

/-! ### fullerref08_TakeList: function 22 -/
mutual
def fullerref08_TakeList.j0 : Nat → Int → Int → List Int → Bool → Option (List Int × List Int × Int)
  | 0, _, _, _, _ => none
  | k + 1, x1, x7, x8, x34 => if x34 = true then (some (([] : List Int), ([] : List Int), 40)) else (fullerref08_TakeList.l0 k x1 x7 x8 ([] : List Int) 0)
def fullerref08_TakeList.l0 : Nat → Int → Int → List Int → List Int → Int → Option (List Int × List Int × Int)
  | 0, _, _, _, _, _ => none
  | k + 1, x1, x7, x8, x10, x11 => if x11 < x7 then ((fullerref08_Take.f k x8 x1).bind fun bt272 => (if bt272.2.2 = 0 then (if x10.length < 17592186044416 then (fullerref08_TakeList.l0 k x1 x7 bt272.2.1 (x10 ++ [bt272.1]) (wrap64 (x11 + 1))) else (none)) else (some (([] : List Int), ([] : List Int), bt272.2.2)))) else (some (x10, x8, 0))
end
def fullerref08_TakeList.f (k : Nat) (l0 : List Int) (a1 : Int) : Option (List Int × List Int × Int) := (fullerref08_Take.f k l0 1).bind fun bt267 => (if bt267.2.2 = 0 then (if a1 = 1 then (fullerref08_TakeList.j0 k a1 bt267.1 bt267.2.1 false) else (if a1 = 2 then (fullerref08_TakeList.j0 k a1 bt267.1 bt267.2.1 false) else (fullerref08_TakeList.j0 k a1 bt267.1 bt267.2.1 (a1 != 8)))) else (fullerref08_TakeList.j0 k a1 bt267.1 bt267.2.1 true))
theorem fullerref08_TakeList.mono_l : ∀ k, (∀ y0 y1 y2 y3, LeO (fullerref08_TakeList.j0 k y0 y1 y2 y3) (fullerref08_TakeList.j0 (k + 1) y0 y1 y2 y3)) ∧ (∀ y0 y1 y2 y3 y4, LeO (fullerref08_TakeList.l0 k y0 y1 y2 y3 y4) (fullerref08_TakeList.l0 (k + 1) y0 y1 y2 y3 y4))
  | 0 => ⟨fun _ _ _ _ r h => by simp [fullerref08_TakeList.j0] at h, fun _ _ _ _ _ r h => by simp [fullerref08_TakeList.l0] at h⟩
  | k + 1 => by
    obtain ⟨ih0, ih1⟩ := fullerref08_TakeList.mono_l k
    refine ⟨?_, ?_⟩
    · intro y0 y1 y2 y3
      unfold fullerref08_TakeList.j0
      repeat' first
      | (with_reducible exact ih0 _ _ _ _)
      | (with_reducible exact ih1 _ _ _ _ _)
      | (with_reducible exact fullerref08_Take.mono _ _ _)
      | (with_reducible exact LeO.refl _)
      | (with_reducible exact LeO.none _)
      | (with_reducible refine LeO.ite ?_ ?_)
      | (with_reducible refine LeO.bind ?_ (fun _ => ?_))
      | exact ih0 _ _ _ _
      | exact ih1 _ _ _ _ _
      | exact fullerref08_Take.mono _ _ _
      | exact LeO.none _
      | refine LeO.ite ?_ ?_
      | refine LeO.bind ?_ (fun _ => ?_)
    · intro y0 y1 y2 y3 y4
      unfold fullerref08_TakeList.l0
      repeat' first
      | (with_reducible exact ih0 _ _ _ _)
      | (with_reducible exact ih1 _ _ _ _ _)
      | (with_reducible exact fullerref08_Take.mono _ _ _)
      | (with_reducible exact LeO.refl _)
      | (with_reducible exact LeO.none _)
      | (with_reducible refine LeO.ite ?_ ?_)
      | (with_reducible refine LeO.bind ?_ (fun _ => ?_))
      | exact ih0 _ _ _ _
      | exact ih1 _ _ _ _ _
      | exact fullerref08_Take.mono _ _ _
      | exact LeO.none _
      | refine LeO.ite ?_ ?_
      | refine LeO.bind ?_ (fun _ => ?_)
theorem fullerref08_TakeList.mono : ∀ a0 a1 k, LeO (fullerref08_TakeList.f k a0 a1) (fullerref08_TakeList.f (k + 1) a0 a1) := by
  intro a0 a1 k
  obtain ⟨ih0, ih1⟩ := fullerref08_TakeList.mono_l k
  unfold fullerref08_TakeList.f
  repeat' first
      | (with_reducible exact ih0 _ _ _ _)
      | (with_reducible exact ih1 _ _ _ _ _)
      | (with_reducible exact fullerref08_Take.mono _ _ _)
      | (with_reducible exact LeO.refl _)
      | (with_reducible exact LeO.none _)
      | (with_reducible refine LeO.ite ?_ ?_)
      | (with_reducible refine LeO.bind ?_ (fun _ => ?_))
      | exact ih0 _ _ _ _
      | exact ih1 _ _ _ _ _
      | exact fullerref08_Take.mono _ _ _
      | exact LeO.none _
      | refine LeO.ite ?_ ?_
      | refine LeO.bind ?_ (fun _ => ?_)
set_option maxHeartbeats 8000000 in
set_option maxRecDepth 100000 in
theorem fullerref08_TakeList.calls (k : Nat) (P0_ : Nat → Prop) (A0 : Option Addr) (c0 : Nat) (l0 : List Int) (a1 : Int) (r1 : List Int) (r2 : List Int) (r3 : Int) (w : World) (hs0 : Kd.V (Kd.int .u8) 5 w w.heap.size (fun k_ => P0_ k_) (.slice A0 l0.length c0) l0) (h : fullerref08_TakeList.f k l0 a1 = some (r1, r2, r3)) :
    Calls Try.prog 22 #[.slice A0 l0.length c0, .int .i64 a1] w fun e w' => ∃ v0_ v1_ : Value, e = .returned (.tuple #[v0_, v1_, .int .i64 r3]) ∧ Kd.R (Kd.int .i64) 3 w' w.heap.size (fun k_ => (w.heap.size ≤ k_)) v0_ r1 ∧ Kd.V (Kd.int .u8) 5 w' w.heap.size (fun k_ => (P0_ k_ ∨ w.heap.size ≤ k_) ∧ some k_ ≠ (v0_ : Value).ownBlock) v1_ r2 ∧ Below w.heap.size w w' := by
  have HO0 := Aside0.mk (show Kd.V (Kd.int .u8) 5 w w.heap.size (fun k_ => (P0_ k_ ∨ w.heap.size ≤ k_)) (.slice A0 l0.length c0) l0 from Kd.V_mono hs0 (fun k_ hk => .inl hk))
  have HB := Aside0.mk (Below.refl w.heap.size w)
  have H : ((fullerref08_Take.f k l0 1).bind fun bt267 => (if bt267.2.2 = 0 then (if a1 = 1 then (fullerref08_TakeList.j0 k a1 bt267.1 bt267.2.1 false) else (if a1 = 2 then (fullerref08_TakeList.j0 k a1 bt267.1 bt267.2.1 false) else (fullerref08_TakeList.j0 k a1 bt267.1 bt267.2.1 (a1 != 8)))) else (fullerref08_TakeList.j0 k a1 bt267.1 bt267.2.1 true))) = some (r1, r2, r3) := h
  clear h
  replace H := Option.bind_eq_some_iff.mp H
  obtain ⟨⟨t267, t268, t271⟩, A30, H⟩ := H
  replace H : (if t271 = 0 then (if a1 = 1 then (fullerref08_TakeList.j0 k a1 t267 t268 false) else (if a1 = 2 then (fullerref08_TakeList.j0 k a1 t267 t268 false) else (fullerref08_TakeList.j0 k a1 t267 t268 (a1 != 8)))) else (fullerref08_TakeList.j0 k a1 t267 t268 true)) = some (r1, r2, r3) := H
  have A3 := Aside0.mk A30
  clear A30
  have HC4 := Aside0.mk H
  clear H
  go_enter Try.func22, Try.ntmps22
  go_upto_region 2 with (first | ((with_reducible refine gate_callee (f := 21) rfl ?_); refine goesL_ (some 17) rfl rfl Try.func21 (by kernel_rfl) rfl #[.slice A0 l0.length c0, .int .i64 1] rfl (by (try simp only [List.map_toArray, List.map_cons, List.map_nil]); first | done | rfl | (simp only [List.length_drop, List.length_take]; rfl)) ?_; (with_reducible refine (fullerref08_Take.calls k (fun k_ => (P0_ k_ ∨ w.heap.size ≤ k_)) _ _ l0 1 t267 t268 t271 _ ?side1 A3.out).mono ?_); (case side1 => first | exact HO0.out | exact Kd.V_mono HO0.out (fun _ h_ => by simpa only [and_assoc, and_comm, and_left_comm] using h_)); rintro e w5 ⟨v269, rfl, ho0, hb⟩; refine ⟨_, rfl, ?_⟩; have n0_ := Aside0.mk (Kd.V_below (mvV_ HO0.out) hb); have n1_ := Aside0.mk (Kd.V_lower (Kd.V_mono (ok' := fun k_ => (P0_ k_ ∨ w.heap.size ≤ k_)) ho0 (fun k_ hk_ => Or.elim hk_ (fun hs_ => hs_) (fun hn_ => (.inr (Nat.le_trans (below_size (bq0_ HB.out)) hn_))))) (below_size (bq0_ HB.out))); have n2_ := Aside0.mk (below_step (bq0_ HB.out) hb); clear HO0; clear HB; have HO0 := n0_; have HO270 := n1_; have HB := n2_; clear n0_ n1_ n2_; (try clear hb); (try clear ho0)))
  (try simp only [Act.put, List.setIfInBounds_toArray, List.set_cons_zero, List.set_cons_succ])
  go_cut [34] (fun v34 wc => ∃ (kq : Nat) (x34_3 : Bool), v34 = .bool x34_3 ∧ Aside0 (fullerref08_TakeList.j0 kq a1 t267 t268 x34_3 = some (r1, r2, r3)) ∧ Aside0 (kq ≤ k) ∧ Aside0 (Kd.V (Kd.int .u8) 5 wc w.heap.size (fun k_ => (P0_ k_ ∨ w.heap.size ≤ k_)) v269 t268) ∧ Aside0 (Below w.heap.size w wc))
  case first =>
    have H := HC4.out
    clear HC4
    by_cases c6 : t271 = 0
    · rw [if_pos c6] at H
      have c6b0 : (t271 == 0) = true := beq_iff_eq.mpr c6
      have c6b1 : (t271 != 0) = false := bne_eq_false_iff_eq.mpr c6
      clear c6
      (first | rw [c6b0] | (simp only [i64_w, i32_w]; rw [c6b0]) | skip)
      by_cases c7 : a1 = 1
      · rw [if_pos c7] at H
        have c7b0 : (a1 == 1) = true := beq_iff_eq.mpr c7
        have c7b1 : (a1 != 1) = false := bne_eq_false_iff_eq.mpr c7
        clear c7
        have H' := Aside0.mk H
        clear H
        go_wp2
        go_meet
        case rel => exact ⟨_, (false), (by first | rfl | (simp; done) | (simp [*]; done)), H', ⟨by first | omega | exact Nat.le_refl _⟩, ⟨by (with_reducible repeat (first | apply Kd.V_alloc | apply Kd.V_drewN | apply Kd.V_drew)); exact HO270.out⟩, ⟨by repeat (first | (with_reducible first | exact HB.out | apply below_alloc | apply pw_below_drewN | apply below_drew1) | exact HB.out)⟩⟩
      · rw [if_neg c7] at H
        have c7b0 : (a1 == 1) = false := beq_eq_false_iff_ne.mpr c7
        have c7b1 : (a1 != 1) = true := bne_iff_ne.mpr c7
        by_cases c8 : a1 = 2
        · rw [if_pos c8] at H
          have c8b0 : (a1 == 2) = true := beq_iff_eq.mpr c8
          have c8b1 : (a1 != 2) = false := bne_eq_false_iff_eq.mpr c8
          clear c8
          have H' := Aside0.mk H
          clear H
          go_wp2
          go_meet
          case rel => exact ⟨_, (false), (by first | rfl | (simp; done) | (simp [*]; done)), H', ⟨by first | omega | exact Nat.le_refl _⟩, ⟨by (with_reducible repeat (first | apply Kd.V_alloc | apply Kd.V_drewN | apply Kd.V_drew)); exact HO270.out⟩, ⟨by repeat (first | (with_reducible first | exact HB.out | apply below_alloc | apply pw_below_drewN | apply below_drew1) | exact HB.out)⟩⟩
        · rw [if_neg c8] at H
          have c8b0 : (a1 == 2) = false := beq_eq_false_iff_ne.mpr c8
          have c8b1 : (a1 != 2) = true := bne_iff_ne.mpr c8
          have H' := Aside0.mk H
          clear H
          go_wp2
          go_meet
          case rel => exact ⟨_, ((a1 != 8)), (by first | rfl | (simp; done) | (simp [*]; done)), H', ⟨by first | omega | exact Nat.le_refl _⟩, ⟨by (with_reducible repeat (first | apply Kd.V_alloc | apply Kd.V_drewN | apply Kd.V_drew)); exact HO270.out⟩, ⟨by repeat (first | (with_reducible first | exact HB.out | apply below_alloc | apply pw_below_drewN | apply below_drew1) | exact HB.out)⟩⟩
    · rw [if_neg c6] at H
      have c6b0 : (t271 == 0) = false := beq_eq_false_iff_ne.mpr c6
      have c6b1 : (t271 != 0) = true := bne_iff_ne.mpr c6
      (first | rw [c6b0] | (simp only [i64_w, i32_w]; rw [c6b0]) | skip)
      have H' := Aside0.mk H
      clear H
      go_wp2
      go_meet
      case rel => exact ⟨_, (true), (by first | rfl | (simp; done) | (simp [*]; done)), H', ⟨by first | omega | exact Nat.le_refl _⟩, ⟨by (with_reducible repeat (first | apply Kd.V_alloc | apply Kd.V_drewN | apply Kd.V_drew)); exact HO270.out⟩, ⟨by repeat (first | (with_reducible first | exact HB.out | apply below_alloc | apply pw_below_drewN | apply below_drew1) | exact HB.out)⟩⟩
  case rest =>
    clear HC4
    try clear c2
    try clear p2
    try clear c6
    try clear c6b0
    try clear c6b1
    try clear c7
    try clear c7b0
    try clear c7b1
    try clear c8
    try clear c8b0
    try clear c8b1
    obtain ⟨kq, x34_3, rfl, HA, HJ3, HO_8, HB⟩ := hcut
    cases kq with
    | zero => exact absurd HA.out (by simp [fullerref08_TakeList.j0])
    | succ kj3 =>
      have H := HA.out
      clear HA
      simp only [fullerref08_TakeList.j0] at H
      by_cases c9 : x34_3 = true
      · subst c9
        have H1 : (some (([] : List Int), ([] : List Int), 40)) = some (r1, r2, r3) := by rw [if_pos rfl] at H; exact H
        clear H
        have H := H1
        clear H1
        simp only [Option.some.injEq, Prod.mk.injEq] at H
        obtain ⟨rfl, rfl, rfl⟩ := H
        go_wp2
        go_ret3
        exact ⟨_, _, by first | rfl | (simp [errW_none, errW_some] <;> rfl) | (simp [*, errW_none, errW_some] <;> rfl), by first | exact Kd.R_nil _ _ _ _ _ | exact Kd.N_nil _ _ _ _ _ | exact Kd.V_nil _ _ _ _ _ | exact Kd.Q_nil _ _ _ _ _ | exact Kd.S_nil _ _ _ _ _, (Kd.V_nil _ _ _ _ _), by repeat (first | (with_reducible first | exact HB.out | apply below_alloc | apply pw_below_drewN | apply below_drew1) | exact HB.out)⟩
      · replace c9 := Bool.eq_false_iff.mpr c9
        subst c9
        have H1 : (fullerref08_TakeList.l0 kj3 a1 t267 t268 ([] : List Int) 0) = some (r1, r2, r3) := by rw [if_neg (show ¬ (false = true) by decide)] at H; exact H
        clear H
        have H := H1
        clear H1
        have H' := Aside0.mk H
        clear H
        go_wp2
        go_loopg [8, 10, 11] kj3 (fun kq v8 v10 v11 w' => ∃ (x8_2 : List Int) (x10_2 : List Int) (x11_2 : Int), v11 = .int .i64 x11_2 ∧ Aside0 (fullerref08_TakeList.l0 kq a1 t267 x8_2 x10_2 x11_2 = some (r1, r2, r3)) ∧ Aside0 (kq ≤ kj3) ∧ Aside0 (Kd.V (Kd.int .u8) 5 w' w.heap.size (fun k_ => (P0_ k_ ∨ w.heap.size ≤ k_) ∧ some k_ ≠ (v10 : Value).ownBlock) v8 x8_2) ∧ Aside0 (Kd.R (Kd.int .i64) 3 w' w.heap.size (fun k_ => (w.heap.size ≤ k_)) v10 x10_2) ∧ Aside0 (Below w.heap.size w w'))
        case atStart => exact ⟨(t268), (([] : List Int)), (0), (by first | rfl | (simp; done) | (simp [*]; done)), H', ⟨Nat.le_refl _⟩, ⟨by (with_reducible repeat (first | apply Kd.V_alloc | apply Kd.V_drewN | apply Kd.V_drew)); exact Kd.V_mono HO_8.out (fun _ hk => ⟨hk, (by simp [Value.ownBlock])⟩)⟩, ⟨by first | exact Kd.R_nil _ _ _ _ _ | exact Kd.N_nil _ _ _ _ _ | exact Kd.V_nil _ _ _ _ _ | exact Kd.Q_nil _ _ _ _ _ | exact Kd.S_nil _ _ _ _ _⟩, ⟨by repeat (first | (with_reducible first | exact HB.out | apply below_alloc | apply pw_below_drewN | apply below_drew1) | exact HB.out)⟩⟩
        case round =>
          clear H'
          try clear c2
          try clear p2
          try clear c6
          try clear c6b0
          try clear c6b1
          try clear c7
          try clear c7b0
          try clear c7b1
          try clear c8
          try clear c8b0
          try clear c8b1
          try clear c9
          try clear p2
          obtain ⟨x8_2, x10_2, x11_2, rfl, HA, HK2, HO_8, HO_10, HB⟩ := hrel
          cases gk with
          | zero => exact absurd HA.out (by simp [fullerref08_TakeList.l0])
          | succ k2 =>
            have H := HA.out
            clear HA
            simp only [fullerref08_TakeList.l0] at H
            by_cases c10 : x11_2 < t267
            · rw [if_pos c10] at H
              have c10b0 : decide (x11_2 < t267) = true := decide_eq_true c10
              clear c10
              replace H := Option.bind_eq_some_iff.mp H
              obtain ⟨⟨t272, t273, t276⟩, A110, H⟩ := H
              replace H : (if t276 = 0 then (if x10_2.length < 17592186044416 then (fullerref08_TakeList.l0 k2 a1 t267 t273 (x10_2 ++ [t272]) (wrap64 (x11_2 + 1))) else (none)) else (some (([] : List Int), ([] : List Int), t276))) = some (r1, r2, r3) := H
              have A11 := Aside0.mk A110
              clear A110
              by_cases c12 : t276 = 0
              · rw [if_pos c12] at H
                have c12b0 : (t276 == 0) = true := beq_iff_eq.mpr c12
                have c12b1 : (t276 != 0) = false := bne_eq_false_iff_eq.mpr c12
                clear c12
                by_cases c13 : x10_2.length < 17592186044416
                · rw [if_pos c13] at H
                  have LMc13 := Aside0.mk c13
                  clear c13
                  obtain ⟨y277, hy277⟩ : ∃ y_ : List Int, y_ = (x10_2 ++ [t272]) := ⟨_, rfl⟩
                  replace H : (fullerref08_TakeList.l0 k2 a1 t267 t273 y277 (wrap64 (x11_2 + 1))) = some (r1, r2, r3) := by first | (rw [hy277]; with_reducible exact H) | (have H2_ := (Option.bind_some _ _).symm.trans H; rw [hy277]; with_reducible exact H2_) | (have H2_ := (Option.bind_some _ _).symm.trans H; with_reducible exact H2_) | with_reducible exact H | (rw [hy277]; exact H) | exact H
                  have Ny277 := Aside0.mk hy277
                  clear hy277
                  have H' := Aside0.mk H
                  clear H
                  obtain ⟨Ao14, co14, eo14⟩ := Kd.V_slice HO_8.out
                  subst eo14
                  go_wp2_with (first | ((with_reducible refine gate_callee (f := 21) rfl ?_); refine goesL_ (some 43) rfl rfl Try.func21 (by kernel_rfl) rfl #[.slice Ao14 x8_2.length co14, .int .i64 a1] rfl (by (try simp only [List.map_toArray, List.map_cons, List.map_nil]); first | done | rfl | (simp only [List.length_drop, List.length_take]; rfl)) ?_; (with_reducible refine (fullerref08_Take.calls k2 (fun k_ => ((P0_ k_ ∨ w.heap.size ≤ k_) ∧ some k_ ≠ (u10 : Value).ownBlock)) _ _ x8_2 a1 t272 t273 t276 _ ?side1 A11.out).mono ?_); (case side1 => first | exact HO_8.out | exact Kd.V_mono HO_8.out (fun _ h_ => by simpa only [and_assoc, and_comm, and_left_comm] using h_)); rintro e w15 ⟨v274, rfl, ho0, hb⟩; refine ⟨_, rfl, ?_⟩; have n0_ := Aside0.mk (Kd.V_below (mvV_ HO_8.out) hb); have n1_ := Aside0.mk (Kd.R_below (mvR_ HO_10.out) hb); have n2_ := Aside0.mk (Kd.V_lower (Kd.V_mono (ok' := fun k_ => (P0_ k_ ∨ w.heap.size ≤ k_) ∧ some k_ ≠ (u10 : Value).ownBlock) ho0 (fun k_ hk_ => ⟨Or.elim hk_ (fun hs_ => hs_.1) (fun hn_ => (.inr (Nat.le_trans (below_size (bq0_ HB.out)) hn_))), Or.elim hk_ (fun hs_ => hs_.2) (fun hn_ => (Kd.fresh' (Kd.R_lt (mvR_ HO_10.out)) k_ hn_))⟩)) (below_size (bq0_ HB.out))); have n3_ := Aside0.mk (below_step (bq0_ HB.out) hb); clear HO_8; clear HO_10; clear HB; have HO_8 := n0_; have HO_10 := n1_; have HO275 := n2_; have HB := n3_; clear n0_ n1_ n2_ n3_; (try clear hb); (try clear ho0)) | ((with_reducible refine gate_builtin (b := .append) (xs := #[.tmp 50, .tmp 52]) rfl ?_); at_builtin; refine Kd.R_append (Kd.int .i64) (w0 := w) w.heap.size rfl (.tmp 50) (.tmp 52) 34 3 (.int .i64 0) 8 rfl Try.underlying34 info3 rfl (by decide) (by omega) u10 x10_2 t272 [.int .i64 t272] (fun k_ => (w.heap.size ≤ k_)) (fun _ => False) rfl rfl ?aP (fun _ hk => hk.elim) ?aF ?aO ?aB ?aS ?aL ?_; (case aP => exact rfl); (case aB => exact (bq0_ HB.out)); (case aF => exact (fun k_ hk => (Nat.le_trans (below_size (bq0_ HB.out)) hk))); (case aO => exact (mvR_ HO_10.out)); (case aS => exact (below_size (bq0_ HB.out))); (case aL => have := LMc13.out; omega); intro v278 w16 ho hb hg hat; rw [← Ny277.out] at ho; have n0_ := Aside0.mk (Kd.V_afterv (ok := (fun k_ => (P0_ k_ ∨ w.heap.size ≤ k_))) (mvV_ HO_8.out) hg hat); have n1_ := Aside0.mk (Kd.V_afterv (ok := (fun k_ => (P0_ k_ ∨ w.heap.size ≤ k_))) (mvV_ HO275.out) hg hat); have n2_ := Aside0.mk (hb); have n3_ := Aside0.mk (ho); clear HO_8; clear HO275; clear HB; clear HO_10; have HO_8 := n0_; have HO275 := n1_; have HB := n2_; have HO279 := n3_; clear n0_ n1_ n2_ n3_; clear ho hb hg hat))
                  go_roundg k2
                  case measure => have := HJ3.out; have := HK2.out; omega
                  case rel => exact ⟨(t273), (y277), (wrap64 (x11_2 + 1)), (by first | rfl | (simp; done) | (simp [*]; done)), H', ⟨by have := HJ3.out; have := HK2.out; omega⟩, ⟨by (with_reducible repeat (first | apply Kd.V_alloc | apply Kd.V_drewN | apply Kd.V_drew)); exact HO275.out⟩, ⟨by (with_reducible repeat (first | apply Kd.R_alloc | apply Kd.R_drewN | apply Kd.R_drew)); exact HO279.out⟩, ⟨by repeat (first | (with_reducible first | exact HB.out | apply below_alloc | apply pw_below_drewN | apply below_drew1) | exact HB.out)⟩⟩
                · rw [if_neg c13] at H
                  exact absurd H (by simp)
              · rw [if_neg c12] at H
                have c12b0 : (t276 == 0) = false := beq_eq_false_iff_ne.mpr c12
                have c12b1 : (t276 != 0) = true := bne_iff_ne.mpr c12
                simp only [Option.some.injEq, Prod.mk.injEq] at H
                obtain ⟨rfl, rfl, rfl⟩ := H
                obtain ⟨Ao17, co17, eo17⟩ := Kd.V_slice HO_8.out
                subst eo17
                go_wp2_with (first | ((with_reducible refine gate_callee (f := 21) rfl ?_); refine goesL_ (some 43) rfl rfl Try.func21 (by kernel_rfl) rfl #[.slice Ao17 x8_2.length co17, .int .i64 a1] rfl (by (try simp only [List.map_toArray, List.map_cons, List.map_nil]); first | done | rfl | (simp only [List.length_drop, List.length_take]; rfl)) ?_; (with_reducible refine (fullerref08_Take.calls k2 (fun k_ => ((P0_ k_ ∨ w.heap.size ≤ k_) ∧ some k_ ≠ (u10 : Value).ownBlock)) _ _ x8_2 a1 t272 t273 t276 _ ?side1 A11.out).mono ?_); (case side1 => first | exact HO_8.out | exact Kd.V_mono HO_8.out (fun _ h_ => by simpa only [and_assoc, and_comm, and_left_comm] using h_)); rintro e w18 ⟨v274, rfl, ho0, hb⟩; refine ⟨_, rfl, ?_⟩; have n0_ := Aside0.mk (Kd.V_below (mvV_ HO_8.out) hb); have n1_ := Aside0.mk (Kd.R_below (mvR_ HO_10.out) hb); have n2_ := Aside0.mk (Kd.V_lower (Kd.V_mono (ok' := fun k_ => (P0_ k_ ∨ w.heap.size ≤ k_) ∧ some k_ ≠ (u10 : Value).ownBlock) ho0 (fun k_ hk_ => ⟨Or.elim hk_ (fun hs_ => hs_.1) (fun hn_ => (.inr (Nat.le_trans (below_size (bq0_ HB.out)) hn_))), Or.elim hk_ (fun hs_ => hs_.2) (fun hn_ => (Kd.fresh' (Kd.R_lt (mvR_ HO_10.out)) k_ hn_))⟩)) (below_size (bq0_ HB.out))); have n3_ := Aside0.mk (below_step (bq0_ HB.out) hb); clear HO_8; clear HO_10; clear HB; have HO_8 := n0_; have HO_10 := n1_; have HO275 := n2_; have HB := n3_; clear n0_ n1_ n2_ n3_; (try clear hb); (try clear ho0)))
                go_ret3
                exact ⟨_, _, by first | rfl | (simp [errW_none, errW_some] <;> rfl) | (simp [*, errW_none, errW_some] <;> rfl), by first | exact Kd.R_nil _ _ _ _ _ | exact Kd.N_nil _ _ _ _ _ | exact Kd.V_nil _ _ _ _ _ | exact Kd.Q_nil _ _ _ _ _ | exact Kd.S_nil _ _ _ _ _, (Kd.V_nil _ _ _ _ _), by repeat (first | (with_reducible first | exact HB.out | apply below_alloc | apply pw_below_drewN | apply below_drew1) | exact HB.out)⟩
            · rw [if_neg c10] at H
              have c10b0 : decide (x11_2 < t267) = false := decide_eq_false c10
              clear c10
              simp only [Option.some.injEq, Prod.mk.injEq] at H
              obtain ⟨rfl, rfl, rfl⟩ := H
              go_wp2
              go_ret3
              exact ⟨_, _, by first | rfl | (simp [errW_none, errW_some] <;> rfl) | (simp [*, errW_none, errW_some] <;> rfl), by (with_reducible repeat (first | apply Kd.R_alloc | apply Kd.R_drewN | apply Kd.R_drew)); exact HO_10.out, by (with_reducible repeat (first | apply Kd.V_alloc | apply Kd.V_drewN | apply Kd.V_drew)); exact HO_8.out, by repeat (first | (with_reducible first | exact HB.out | apply below_alloc | apply pw_below_drewN | apply below_drew1) | exact HB.out)⟩

/-! ### fullerref12_Read: function 12 -/
mutual
def fullerref12_Read.l0 : Nat → List Int → Int → List Int → Int → List (S36) → Int → Option ((List (S36)) × Int)
  | 0, _, _, _, _, _, _ => none
  | k + 1, x0, x4, x5, x6, x7, x8 => if x8 < x4 then (fullerref12_Read.j1 k x0 x4 x5 x6 x7 x8 (x6 == 0)) else (fullerref12_Read.j1 k x0 x4 x5 x6 x7 x8 false)
def fullerref12_Read.j1 : Nat → List Int → Int → List Int → Int → List (S36) → Int → Bool → Option ((List (S36)) × Int)
  | 0, _, _, _, _, _, _, _ => none
  | k + 1, x0, x4, x5, x6, x7, x8, x32 => if x32 = true then ((fullerref08_Take.f k x5 1).bind fun bt289 => ((fullerref08_TakeList.f k bt289.2.1 1).bind fun bt294 => ((fullerref08_TakeList.f k bt294.2.1 8).bind fun bt301 => (if bt289.2.2 = 0 then (if bt294.2.2 = 0 then (if bt301.2.2 = 0 then (if x7.length < 2513169434916 then (fullerref12_Read.l0 k x0 x4 bt301.2.1 x6 (x7 ++ [(⟨bt289.1, bt294.1, bt301.1⟩ : S36)]) (wrap64 (x8 + 1))) else (none)) else (some (([] : List (S36)), 120))) else (some (([] : List (S36)), 120))) else (some (([] : List (S36)), 120)))))) else ((fullerref12_Write.f k x7).bind fun bt285 => (if x6 = 0 then (if bt285.2 = 0 then (if (strOfNums bt285.1).toList = (strOfNums x0).toList then (some (x7, 0)) else (some (([] : List (S36)), 120))) else (some (([] : List (S36)), 120))) else (some (([] : List (S36)), 120))))
end
def fullerref12_Read.f (k : Nat) (l0 : List Int) : Option ((List (S36)) × Int) := (fullerref08_Take.f k l0 1).bind fun bt280 => (fullerref12_Read.l0 k l0 bt280.1 bt280.2.1 bt280.2.2 ([] : List (S36)) 0)
theorem fullerref12_Read.mono_l : ∀ k, (∀ y0 y1 y2 y3 y4 y5, LeO (fullerref12_Read.l0 k y0 y1 y2 y3 y4 y5) (fullerref12_Read.l0 (k + 1) y0 y1 y2 y3 y4 y5)) ∧ (∀ y0 y1 y2 y3 y4 y5 y6, LeO (fullerref12_Read.j1 k y0 y1 y2 y3 y4 y5 y6) (fullerref12_Read.j1 (k + 1) y0 y1 y2 y3 y4 y5 y6))
  | 0 => ⟨fun _ _ _ _ _ _ r h => by simp [fullerref12_Read.l0] at h, fun _ _ _ _ _ _ _ r h => by simp [fullerref12_Read.j1] at h⟩
  | k + 1 => by
    obtain ⟨ih0, ih1⟩ := fullerref12_Read.mono_l k
    refine ⟨?_, ?_⟩
    · intro y0 y1 y2 y3 y4 y5
      unfold fullerref12_Read.l0
      repeat' first
      | (with_reducible exact ih0 _ _ _ _ _ _)
      | (with_reducible exact ih1 _ _ _ _ _ _ _)
      | (with_reducible exact fullerref08_Take.mono _ _ _)
      | (with_reducible exact fullerref08_TakeList.mono _ _ _)
      | (with_reducible exact fullerref12_Write.mono _ _)
      | (with_reducible exact LeO.refl _)
      | (with_reducible exact LeO.none _)
      | (with_reducible refine LeO.ite ?_ ?_)
      | (with_reducible refine LeO.bind ?_ (fun _ => ?_))
      | exact ih0 _ _ _ _ _ _
      | exact ih1 _ _ _ _ _ _ _
      | exact fullerref08_Take.mono _ _ _
      | exact fullerref08_TakeList.mono _ _ _
      | exact fullerref12_Write.mono _ _
      | exact LeO.none _
      | refine LeO.ite ?_ ?_
      | refine LeO.bind ?_ (fun _ => ?_)
    · intro y0 y1 y2 y3 y4 y5 y6
      unfold fullerref12_Read.j1
      repeat' first
      | (with_reducible exact ih0 _ _ _ _ _ _)
      | (with_reducible exact ih1 _ _ _ _ _ _ _)
      | (with_reducible exact fullerref08_Take.mono _ _ _)
      | (with_reducible exact fullerref08_TakeList.mono _ _ _)
      | (with_reducible exact fullerref12_Write.mono _ _)
      | (with_reducible exact LeO.refl _)
      | (with_reducible exact LeO.none _)
      | (with_reducible refine LeO.ite ?_ ?_)
      | (with_reducible refine LeO.bind ?_ (fun _ => ?_))
      | exact ih0 _ _ _ _ _ _
      | exact ih1 _ _ _ _ _ _ _
      | exact fullerref08_Take.mono _ _ _
      | exact fullerref08_TakeList.mono _ _ _
      | exact fullerref12_Write.mono _ _
      | exact LeO.none _
      | refine LeO.ite ?_ ?_
      | refine LeO.bind ?_ (fun _ => ?_)
theorem fullerref12_Read.mono : ∀ a0 k, LeO (fullerref12_Read.f k a0) (fullerref12_Read.f (k + 1) a0) := by
  intro a0 k
  obtain ⟨ih0, ih1⟩ := fullerref12_Read.mono_l k
  unfold fullerref12_Read.f
  repeat' first
      | (with_reducible exact ih0 _ _ _ _ _ _)
      | (with_reducible exact ih1 _ _ _ _ _ _ _)
      | (with_reducible exact fullerref08_Take.mono _ _ _)
      | (with_reducible exact fullerref08_TakeList.mono _ _ _)
      | (with_reducible exact fullerref12_Write.mono _ _)
      | (with_reducible exact LeO.refl _)
      | (with_reducible exact LeO.none _)
      | (with_reducible refine LeO.ite ?_ ?_)
      | (with_reducible refine LeO.bind ?_ (fun _ => ?_))
      | exact ih0 _ _ _ _ _ _
      | exact ih1 _ _ _ _ _ _ _
      | exact fullerref08_Take.mono _ _ _
      | exact fullerref08_TakeList.mono _ _ _
      | exact fullerref12_Write.mono _ _
      | exact LeO.none _
      | refine LeO.ite ?_ ?_
      | refine LeO.bind ?_ (fun _ => ?_)
set_option maxHeartbeats 8000000 in
set_option maxRecDepth 100000 in
theorem fullerref12_Read.calls (k : Nat) (A0 : Option Addr) (c0 : Nat) (l0 : List Int) (r1 : List (S36)) (r2 : Int) (w : World) (hr0 : Kd.C (Kd.int .u8) w A0 l0.length l0) (hc0 : l0.length ≤ c0) (h : fullerref12_Read.f k l0 = some (r1, r2)) :
    Calls Try.prog 12 #[.slice A0 l0.length c0] w fun e w' => ∃ v0_ : Value, e = .returned (.tuple #[v0_, .int .i64 r2]) ∧ Kd.R k36 36 w' w.heap.size (fun _ => True) v0_ r1 ∧ Below w.heap.size w w' := by
  have hu36 := Try.underlying36
  have HR0 := Aside0.mk hr0
  have HC0 := Aside0.mk hc0
  clear hr0 hc0
  have HB := Aside0.mk (Below.refl w.heap.size w)
  have H : ((fullerref08_Take.f k l0 1).bind fun bt280 => (fullerref12_Read.l0 k l0 bt280.1 bt280.2.1 bt280.2.2 ([] : List (S36)) 0)) = some (r1, r2) := h
  clear h
  replace H := Option.bind_eq_some_iff.mp H
  obtain ⟨⟨t280, t281, t284⟩, A20, H⟩ := H
  replace H : (fullerref12_Read.l0 k l0 t280 t281 t284 ([] : List (S36)) 0) = some (r1, r2) := H
  have A2 := Aside0.mk A20
  clear A20
  have H' := Aside0.mk H
  clear H
  go_enter Try.func12, Try.ntmps12
  go_wp2_with (first | ((with_reducible refine gate_callee (f := 21) rfl ?_); refine goesL_ (some 22) rfl rfl Try.func21 (by kernel_rfl) rfl #[.slice A0 l0.length c0, .int .i64 1] rfl (by (try simp only [List.map_toArray, List.map_cons, List.map_nil]); first | done | rfl | (simp only [List.length_drop, List.length_take]; rfl)) ?_; (with_reducible refine (fullerref08_Take.calls k (fun k_ => k_ < w.heap.size) _ _ l0 1 t280 t281 t284 _ ?side1 A2.out).mono ?_); (case side1 => exact Kd.V_mk HC0.out (Kd.F_below (Kd.C_F (Kd.heap_int .u8) HR0.out) (bq0_ HB.out))); rintro e w3 ⟨v282, rfl, ho0, hb⟩; refine ⟨_, rfl, ?_⟩; have n0_ := Aside0.mk (Kd.V_lower (Kd.V_mono (ok' := fun k_ => True) ho0 (fun k_ hk_ => trivial)) (below_size (bq0_ HB.out))); have n1_ := Aside0.mk (below_step (bq0_ HB.out) hb); clear HB; have HO283 := n0_; have HB := n1_; clear n0_ n1_; (try clear hb); (try clear ho0)))
  go_loopg [5, 7, 8] k (fun kq v5 v7 v8 w' => ∃ (x5_1 : List Int) (x7_1 : List (S36)) (x8_1 : Int), v8 = .int .i64 x8_1 ∧ Aside0 (fullerref12_Read.l0 kq l0 t280 x5_1 t284 x7_1 x8_1 = some (r1, r2)) ∧ Aside0 (kq ≤ k) ∧ Aside0 (Kd.V (Kd.int .u8) 5 w' w.heap.size (fun k_ => some k_ ≠ (v7 : Value).ownBlock) v5 x5_1) ∧ Aside0 (Kd.R k36 36 w' w.heap.size (fun _ => True) v7 x7_1) ∧ Aside0 (Below w.heap.size w w'))
  case atStart => exact ⟨(t281), (([] : List (S36))), (0), (by first | rfl | (simp; done) | (simp [*]; done)), H', ⟨Nat.le_refl _⟩, ⟨by (with_reducible repeat (first | apply Kd.V_alloc | apply Kd.V_drewN | apply Kd.V_drew)); exact Kd.V_mono HO283.out (fun _ hk => (by simp [Value.ownBlock]))⟩, ⟨by first | exact Kd.R_nil _ _ _ _ _ | exact Kd.N_nil _ _ _ _ _ | exact Kd.V_nil _ _ _ _ _ | exact Kd.Q_nil _ _ _ _ _ | exact Kd.S_nil _ _ _ _ _⟩, ⟨by repeat (first | (with_reducible first | exact HB.out | apply below_alloc | apply pw_below_drewN | apply below_drew1) | exact HB.out)⟩⟩
  case round =>
    clear H'
    try clear c1
    try clear c2
    try clear p2
    obtain ⟨x5_1, x7_1, x8_1, rfl, HA, HK1, HO_5, HO_7, HB⟩ := hrel
    cases gk with
    | zero => exact absurd HA.out (by simp [fullerref12_Read.l0])
    | succ k1 =>
      have H := HA.out
      clear HA
      simp only [fullerref12_Read.l0] at H
      have HC4 := Aside0.mk H
      clear H
      go_upto_region 4 with (fail)
      go_cut [32] (fun v32 wc => ∃ (kq : Nat) (x32_3 : Bool), v32 = .bool x32_3 ∧ Aside0 (fullerref12_Read.j1 kq l0 t280 x5_1 t284 x7_1 x8_1 x32_3 = some (r1, r2)) ∧ Aside0 (kq ≤ k1) ∧ Aside0 (Kd.V (Kd.int .u8) 5 wc w.heap.size (fun k_ => some k_ ≠ (u7 : Value).ownBlock) u5 x5_1) ∧ Aside0 (Kd.R k36 36 wc w.heap.size (fun _ => True) u7 x7_1) ∧ Aside0 (Below w.heap.size w wc))
      case first =>
        have H := HC4.out
        clear HC4
        by_cases c5 : x8_1 < t280
        · rw [if_pos c5] at H
          have c5b0 : decide (x8_1 < t280) = true := decide_eq_true c5
          clear c5
          (first | rw [c5b0] | (simp only [i64_w, i32_w]; rw [c5b0]) | skip)
          have H' := Aside0.mk H
          clear H
          go_wp2
          go_meet
          case rel => exact ⟨_, ((t284 == 0)), (by first | rfl | (simp; done) | (simp [*]; done)), H', ⟨by have := HK1.out; first | omega | exact Nat.le_refl _⟩, ⟨by (with_reducible repeat (first | apply Kd.V_alloc | apply Kd.V_drewN | apply Kd.V_drew)); exact HO_5.out⟩, ⟨by (with_reducible repeat (first | apply Kd.R_alloc | apply Kd.R_drewN | apply Kd.R_drew)); exact HO_7.out⟩, ⟨by repeat (first | (with_reducible first | exact HB.out | apply below_alloc | apply pw_below_drewN | apply below_drew1) | exact HB.out)⟩⟩
        · rw [if_neg c5] at H
          have c5b0 : decide (x8_1 < t280) = false := decide_eq_false c5
          clear c5
          (first | rw [c5b0] | (simp only [i64_w, i32_w]; rw [c5b0]) | skip)
          have H' := Aside0.mk H
          clear H
          go_wp2
          go_meet
          case rel => exact ⟨_, (false), (by first | rfl | (simp; done) | (simp [*]; done)), H', ⟨by have := HK1.out; first | omega | exact Nat.le_refl _⟩, ⟨by (with_reducible repeat (first | apply Kd.V_alloc | apply Kd.V_drewN | apply Kd.V_drew)); exact HO_5.out⟩, ⟨by (with_reducible repeat (first | apply Kd.R_alloc | apply Kd.R_drewN | apply Kd.R_drew)); exact HO_7.out⟩, ⟨by repeat (first | (with_reducible first | exact HB.out | apply below_alloc | apply pw_below_drewN | apply below_drew1) | exact HB.out)⟩⟩
      case rest =>
        clear HC4
        try clear c1
        try clear c2
        try clear p2
        try clear c5
        try clear c5b0
        try clear p2
        obtain ⟨kq, x32_3, rfl, HA, HJ3, HO_5, HO_7, HB⟩ := hcut
        cases kq with
        | zero => exact absurd HA.out (by simp [fullerref12_Read.j1])
        | succ kj3 =>
          have H := HA.out
          clear HA
          simp only [fullerref12_Read.j1] at H
          by_cases c6 : x32_3 = true
          · subst c6
            have H1 : ((fullerref08_Take.f kj3 x5_1 1).bind fun bt289 => ((fullerref08_TakeList.f kj3 bt289.2.1 1).bind fun bt294 => ((fullerref08_TakeList.f kj3 bt294.2.1 8).bind fun bt301 => (if bt289.2.2 = 0 then (if bt294.2.2 = 0 then (if bt301.2.2 = 0 then (if x7_1.length < 2513169434916 then (fullerref12_Read.l0 kj3 l0 t280 bt301.2.1 t284 (x7_1 ++ [(⟨bt289.1, bt294.1, bt301.1⟩ : S36)]) (wrap64 (x8_1 + 1))) else (none)) else (some (([] : List (S36)), 120))) else (some (([] : List (S36)), 120))) else (some (([] : List (S36)), 120)))))) = some (r1, r2) := by rw [if_pos rfl] at H; exact H
            clear H
            have H := H1
            clear H1
            replace H := Option.bind_eq_some_iff.mp H
            obtain ⟨⟨t289, t290, t293⟩, A70, H⟩ := H
            replace H : ((fullerref08_TakeList.f kj3 t290 1).bind fun bt294 => ((fullerref08_TakeList.f kj3 bt294.2.1 8).bind fun bt301 => (if t293 = 0 then (if bt294.2.2 = 0 then (if bt301.2.2 = 0 then (if x7_1.length < 2513169434916 then (fullerref12_Read.l0 kj3 l0 t280 bt301.2.1 t284 (x7_1 ++ [(⟨t289, bt294.1, bt301.1⟩ : S36)]) (wrap64 (x8_1 + 1))) else (none)) else (some (([] : List (S36)), 120))) else (some (([] : List (S36)), 120))) else (some (([] : List (S36)), 120))))) = some (r1, r2) := H
            have A7 := Aside0.mk A70
            clear A70
            replace H := Option.bind_eq_some_iff.mp H
            obtain ⟨⟨t294, t297, t300⟩, A80, H⟩ := H
            replace H : ((fullerref08_TakeList.f kj3 t297 8).bind fun bt301 => (if t293 = 0 then (if t300 = 0 then (if bt301.2.2 = 0 then (if x7_1.length < 2513169434916 then (fullerref12_Read.l0 kj3 l0 t280 bt301.2.1 t284 (x7_1 ++ [(⟨t289, t294, bt301.1⟩ : S36)]) (wrap64 (x8_1 + 1))) else (none)) else (some (([] : List (S36)), 120))) else (some (([] : List (S36)), 120))) else (some (([] : List (S36)), 120)))) = some (r1, r2) := H
            have A8 := Aside0.mk A80
            clear A80
            replace H := Option.bind_eq_some_iff.mp H
            obtain ⟨⟨t301, t304, t307⟩, A90, H⟩ := H
            replace H : (if t293 = 0 then (if t300 = 0 then (if t307 = 0 then (if x7_1.length < 2513169434916 then (fullerref12_Read.l0 kj3 l0 t280 t304 t284 (x7_1 ++ [(⟨t289, t294, t301⟩ : S36)]) (wrap64 (x8_1 + 1))) else (none)) else (some (([] : List (S36)), 120))) else (some (([] : List (S36)), 120))) else (some (([] : List (S36)), 120))) = some (r1, r2) := H
            have A9 := Aside0.mk A90
            clear A90
            by_cases c10 : t293 = 0
            · rw [if_pos c10] at H
              have c10b0 : (t293 == 0) = true := beq_iff_eq.mpr c10
              have c10b1 : (t293 != 0) = false := bne_eq_false_iff_eq.mpr c10
              clear c10
              by_cases c11 : t300 = 0
              · rw [if_pos c11] at H
                have c11b0 : (t300 == 0) = true := beq_iff_eq.mpr c11
                have c11b1 : (t300 != 0) = false := bne_eq_false_iff_eq.mpr c11
                clear c11
                by_cases c12 : t307 = 0
                · rw [if_pos c12] at H
                  have c12b0 : (t307 == 0) = true := beq_iff_eq.mpr c12
                  have c12b1 : (t307 != 0) = false := bne_eq_false_iff_eq.mpr c12
                  clear c12
                  by_cases c13 : x7_1.length < 2513169434916
                  · rw [if_pos c13] at H
                    have LMc13 := Aside0.mk c13
                    clear c13
                    obtain ⟨y308, hy308⟩ : ∃ y_ : List (S36), y_ = (x7_1 ++ [(⟨t289, t294, t301⟩ : S36)]) := ⟨_, rfl⟩
                    replace H : (fullerref12_Read.l0 kj3 l0 t280 t304 t284 y308 (wrap64 (x8_1 + 1))) = some (r1, r2) := by first | (rw [hy308]; with_reducible exact H) | (have H2_ := (Option.bind_some _ _).symm.trans H; rw [hy308]; with_reducible exact H2_) | (have H2_ := (Option.bind_some _ _).symm.trans H; with_reducible exact H2_) | with_reducible exact H | (rw [hy308]; exact H) | exact H
                    have Ny308 := Aside0.mk hy308
                    clear hy308
                    have H' := Aside0.mk H
                    clear H
                    obtain ⟨Ao14, co14, eo14⟩ := Kd.V_slice HO_5.out
                    subst eo14
                    go_wp2_with (first | ((with_reducible refine gate_callee (f := 21) rfl ?_); refine goesL_ (some 37) rfl rfl Try.func21 (by kernel_rfl) rfl #[.slice Ao14 x5_1.length co14, .int .i64 1] rfl (by (try simp only [List.map_toArray, List.map_cons, List.map_nil]); first | done | rfl | (simp only [List.length_drop, List.length_take]; rfl)) ?_; (with_reducible refine (fullerref08_Take.calls kj3 (fun k_ => some k_ ≠ (u7 : Value).ownBlock) _ _ x5_1 1 t289 t290 t293 _ ?side1 A7.out).mono ?_); (case side1 => first | exact HO_5.out | exact Kd.V_mono HO_5.out (fun _ h_ => by simpa only [and_assoc, and_comm, and_left_comm] using h_)); rintro e w15 ⟨v291, rfl, ho0, hb⟩; refine ⟨_, rfl, ?_⟩; have n0_ := Aside0.mk (Kd.V_below (mvV_ HO_5.out) hb); have n1_ := Aside0.mk (Kd.R_below (mvR_ HO_7.out) hb); have n2_ := Aside0.mk (Kd.V_lower (Kd.V_mono (ok' := fun k_ => some k_ ≠ (u7 : Value).ownBlock) ho0 (fun k_ hk_ => Or.elim hk_ (fun hs_ => hs_) (fun hn_ => (Kd.fresh' (Kd.R_lt (mvR_ HO_7.out)) k_ hn_)))) (below_size (bq0_ HB.out))); have n3_ := Aside0.mk (below_step (bq0_ HB.out) hb); clear HO_5; clear HO_7; clear HB; have HO_5 := n0_; have HO_7 := n1_; have HO292 := n2_; have HB := n3_; clear n0_ n1_ n2_ n3_; (try clear hb); (try clear ho0); obtain ⟨Ao16, co16, eo16⟩ := Kd.V_slice HO292.out; subst eo16) | ((with_reducible refine gate_callee (f := 22) rfl ?_); refine goesL_ (some 43) rfl rfl Try.func22 (by kernel_rfl) rfl #[.slice Ao16 t290.length co16, .int .i64 1] rfl (by (try simp only [List.map_toArray, List.map_cons, List.map_nil]); first | done | rfl | (simp only [List.length_drop, List.length_take]; rfl)) ?_; (with_reducible refine (fullerref08_TakeList.calls kj3 (fun k_ => some k_ ≠ (u7 : Value).ownBlock) _ _ t290 1 t294 t297 t300 _ ?side1 A8.out).mono ?_); (case side1 => first | exact HO292.out | exact Kd.V_mono HO292.out (fun _ h_ => by simpa only [and_assoc, and_comm, and_left_comm] using h_)); rintro e w17 ⟨v295, v298, rfl, ho0, ho1, hb⟩; refine ⟨_, rfl, ?_⟩; have n0_ := Aside0.mk (Kd.V_elder' (mvV_ HO_5.out) (Kd.R_base ho0) hb); have n1_ := Aside0.mk (Kd.R_elder' (mvR_ HO_7.out) (Kd.R_base ho0) hb); have n2_ := Aside0.mk (Kd.V_elder' (mvV_ HO292.out) (Kd.R_base ho0) hb); have n3_ := Aside0.mk (Kd.R_lower (Kd.R_mono (ok' := fun k_ => True) ho0 (fun _ hk_ => trivial)) (below_size (bq0_ HB.out))); have n4_ := Aside0.mk (Kd.V_lower (Kd.V_mono (ok' := fun k_ => some k_ ≠ (v295 : Value).ownBlock ∧ some k_ ≠ (u7 : Value).ownBlock) ho1 (fun k_ hk_ => ⟨hk_.2, Or.elim hk_.1 (fun hs_ => hs_) (fun hn_ => (Kd.fresh' (Kd.R_lt (mvR_ HO_7.out)) k_ hn_))⟩)) (below_size (bq0_ HB.out))); have n5_ := Aside0.mk (below_step (bq0_ HB.out) hb); clear HO_5; clear HO_7; clear HO292; clear HB; have HO_5 := n0_; have HO_7 := n1_; have HO292 := n2_; have HO296 := n3_; have HO299 := n4_; have HB := n5_; clear n0_ n1_ n2_ n3_ n4_ n5_; (try clear hb); (try clear ho0); (try clear ho1); obtain ⟨Ao18, co18, eo18⟩ := Kd.V_slice HO299.out; subst eo18) | ((with_reducible refine gate_callee (f := 22) rfl ?_); refine goesL_ (some 49) rfl rfl Try.func22 (by kernel_rfl) rfl #[.slice Ao18 t297.length co18, .int .i64 8] rfl (by (try simp only [List.map_toArray, List.map_cons, List.map_nil]); first | done | rfl | (simp only [List.length_drop, List.length_take]; rfl)) ?_; (with_reducible refine (fullerref08_TakeList.calls kj3 (fun k_ => (some k_ ≠ (v295 : Value).ownBlock ∧ some k_ ≠ (u7 : Value).ownBlock)) _ _ t297 8 t301 t304 t307 _ ?side1 A9.out).mono ?_); (case side1 => first | exact HO299.out | exact Kd.V_mono HO299.out (fun _ h_ => by simpa only [and_assoc, and_comm, and_left_comm] using h_)); rintro e w19 ⟨v302, v305, rfl, ho0, ho1, hb⟩; refine ⟨_, rfl, ?_⟩; have n0_ := Aside0.mk (Kd.V_elder' (mvV_ HO_5.out) (Kd.R_base ho0) hb); have n1_ := Aside0.mk (Kd.R_elder' (mvR_ HO_7.out) (Kd.R_base ho0) hb); have n2_ := Aside0.mk (Kd.V_elder' (mvV_ HO292.out) (Kd.R_base ho0) hb); have n3_ := Aside0.mk (Kd.R_elder' (mvR_ HO296.out) (Kd.R_base ho0) hb); have n4_ := Aside0.mk (Kd.V_elder' (mvV_ HO299.out) (Kd.R_base ho0) hb); have n5_ := Aside0.mk (Kd.R_lower (Kd.R_new' (Kd.R_mono (ok' := fun k_ => True) ho0 (fun _ hk_ => trivial)) (Kd.R_lt (mvR_ HO296.out))) (below_size (bq0_ HB.out))); have n6_ := Aside0.mk (Kd.V_lower (Kd.V_mono (ok' := fun k_ => some k_ ≠ (v302 : Value).ownBlock ∧ some k_ ≠ (u7 : Value).ownBlock ∧ some k_ ≠ (v295 : Value).ownBlock) ho1 (fun k_ hk_ => ⟨hk_.2, Or.elim hk_.1 (fun hs_ => hs_.2) (fun hn_ => (Kd.fresh' (Kd.R_lt (mvR_ HO_7.out)) k_ hn_)), Or.elim hk_.1 (fun hs_ => hs_.1) (fun hn_ => (Kd.fresh' (Kd.R_lt (mvR_ HO296.out)) k_ hn_))⟩)) (below_size (bq0_ HB.out))); have n7_ := Aside0.mk (below_step (bq0_ HB.out) hb); clear HO_5; clear HO_7; clear HO292; clear HO296; clear HO299; clear HB; have HO_5 := n0_; have HO_7 := n1_; have HO292 := n2_; have HO296 := n3_; have HO299 := n4_; have HO303 := n5_; have HO306 := n6_; have HB := n7_; clear n0_ n1_ n2_ n3_ n4_ n5_ n6_ n7_; (try clear hb); (try clear ho0); (try clear ho1); obtain ⟨Ao20, co20, eo20⟩ := Kd.R_slice HO303.out; subst eo20; obtain ⟨Ao21, co21, eo21⟩ := Kd.R_slice HO296.out; subst eo21) | ((with_reducible refine gate_builtin (b := .append) (xs := #[.tmp 63, .tmp 68]) rfl ?_); at_builtin; refine Kd.R_append k36 (w0 := w) w.heap.size rfl (.tmp 63) (.tmp 68) 22 36 (.agg #[(.int .i64 0), (.slice none 0 0), (.slice none 0 0)]) 56 rfl Try.underlying22 info36 rfl (by decide) (by omega) u7 x7_1 (⟨t289, t294, t301⟩ : S36) [.int .i64 t289, .slice Ao21 t294.length co21, .slice Ao20 t301.length co20] (fun _ => True) (fun k_ => ((fun _ => True)) k_ ∧ some k_ ≠ (u7 : Value).ownBlock) rfl rfl ?aP (fun _ hk => hk) ?aF ?aO ?aB ?aS ?aL ?_; (case aP => exact k36_mkM _ _ _ (⟨t289, t294, t301⟩ : S36) (Kd.R_mono (Kd.R_apart' (HO296.out) (Kd.R_typed HO_7.out) (by decide)) (fun k_ hk => ⟨trivial, hk.2⟩)) (Kd.R_mono (Kd.R_apart' (HO303.out) (Kd.R_typed HO_7.out) (by decide)) (fun k_ hk => ⟨trivial, hk.2⟩))); (case aB => exact (bq0_ HB.out)); (case aF => exact (fun _ _ => trivial)); (case aO => exact (by (with_reducible repeat (first | apply Kd.R_alloc | apply Kd.R_drewN | apply Kd.R_drew)); exact Kd.R_mono HO_7.out (fun _ hk => trivial))); (case aS => exact (below_size (bq0_ HB.out))); (case aL => have := LMc13.out; omega); intro v309 w22 ho hb hg hat; rw [← Ny308.out] at ho; have n0_ := Aside0.mk (Kd.V_afterv (ok := (fun k_ => some k_ ≠ (.slice Ao21 t294.length co21 : Value).ownBlock ∧ some k_ ≠ (.slice Ao20 t301.length co20 : Value).ownBlock)) (by (with_reducible repeat (first | apply Kd.V_alloc | apply Kd.V_drewN | apply Kd.V_drew)); exact Kd.V_mono HO_5.out (fun _ hk => ⟨⟨hk.1.2, hk.2⟩, hk.1.1⟩)) hg hat); have n1_ := Aside0.mk (Kd.V_afterv (ok := (fun k_ => some k_ ≠ (.slice Ao21 t294.length co21 : Value).ownBlock ∧ some k_ ≠ (.slice Ao20 t301.length co20 : Value).ownBlock)) (by (with_reducible repeat (first | apply Kd.V_alloc | apply Kd.V_drewN | apply Kd.V_drew)); exact Kd.V_mono HO292.out (fun _ hk => ⟨⟨hk.1.2, hk.2⟩, hk.1.1⟩)) hg hat); have n2_ := Aside0.mk (Kd.V_afterv (ok := (fun k_ => some k_ ≠ (.slice Ao21 t294.length co21 : Value).ownBlock ∧ some k_ ≠ (.slice Ao20 t301.length co20 : Value).ownBlock)) (by (with_reducible repeat (first | apply Kd.V_alloc | apply Kd.V_drewN | apply Kd.V_drew)); exact Kd.V_mono HO299.out (fun _ hk => ⟨⟨hk.1.1, hk.2⟩, hk.1.2⟩)) hg hat); have n3_ := Aside0.mk (Kd.V_afterv (ok := (fun k_ => some k_ ≠ (.slice Ao21 t294.length co21 : Value).ownBlock ∧ some k_ ≠ (.slice Ao20 t301.length co20 : Value).ownBlock)) (by (with_reducible repeat (first | apply Kd.V_alloc | apply Kd.V_drewN | apply Kd.V_drew)); exact Kd.V_mono HO306.out (fun _ hk => ⟨⟨hk.2.2, hk.1⟩, hk.2.1⟩)) hg hat); have n4_ := Aside0.mk (hb); have n5_ := Aside0.mk (ho); clear HO_5; clear HO292; clear HO299; clear HO306; clear HB; clear HO_7; clear HO296; clear HO303; have HO_5 := n0_; have HO292 := n1_; have HO299 := n2_; have HO306 := n3_; have HB := n4_; have HO310 := n5_; clear n0_ n1_ n2_ n3_ n4_ n5_; clear ho hb hg hat))
                    go_roundg kj3
                    case measure => have := HK1.out; have := HJ3.out; omega
                    case rel => exact ⟨(t304), (y308), (wrap64 (x8_1 + 1)), (by first | rfl | (simp; done) | (simp [*]; done)), H', ⟨by have := HK1.out; have := HJ3.out; omega⟩, ⟨by (with_reducible repeat (first | apply Kd.V_alloc | apply Kd.V_drewN | apply Kd.V_drew)); exact Kd.V_mono HO306.out (fun _ hk => hk.2)⟩, ⟨by (with_reducible repeat (first | apply Kd.R_alloc | apply Kd.R_drewN | apply Kd.R_drew)); exact HO310.out⟩, ⟨by repeat (first | (with_reducible first | exact HB.out | apply below_alloc | apply pw_below_drewN | apply below_drew1) | exact HB.out)⟩⟩
                  · rw [if_neg c13] at H
                    exact absurd H (by simp)
                · rw [if_neg c12] at H
                  have c12b0 : (t307 == 0) = false := beq_eq_false_iff_ne.mpr c12
                  have c12b1 : (t307 != 0) = true := bne_iff_ne.mpr c12
                  simp only [Option.some.injEq, Prod.mk.injEq] at H
                  obtain ⟨rfl, rfl⟩ := H
                  obtain ⟨Ao23, co23, eo23⟩ := Kd.V_slice HO_5.out
                  subst eo23
                  go_wp2_with (first | ((with_reducible refine gate_callee (f := 21) rfl ?_); refine goesL_ (some 37) rfl rfl Try.func21 (by kernel_rfl) rfl #[.slice Ao23 x5_1.length co23, .int .i64 1] rfl (by (try simp only [List.map_toArray, List.map_cons, List.map_nil]); first | done | rfl | (simp only [List.length_drop, List.length_take]; rfl)) ?_; (with_reducible refine (fullerref08_Take.calls kj3 (fun k_ => some k_ ≠ (u7 : Value).ownBlock) _ _ x5_1 1 t289 t290 t293 _ ?side1 A7.out).mono ?_); (case side1 => first | exact HO_5.out | exact Kd.V_mono HO_5.out (fun _ h_ => by simpa only [and_assoc, and_comm, and_left_comm] using h_)); rintro e w24 ⟨v291, rfl, ho0, hb⟩; refine ⟨_, rfl, ?_⟩; have n0_ := Aside0.mk (Kd.V_below (mvV_ HO_5.out) hb); have n1_ := Aside0.mk (Kd.R_below (mvR_ HO_7.out) hb); have n2_ := Aside0.mk (Kd.V_lower (Kd.V_mono (ok' := fun k_ => some k_ ≠ (u7 : Value).ownBlock) ho0 (fun k_ hk_ => Or.elim hk_ (fun hs_ => hs_) (fun hn_ => (Kd.fresh' (Kd.R_lt (mvR_ HO_7.out)) k_ hn_)))) (below_size (bq0_ HB.out))); have n3_ := Aside0.mk (below_step (bq0_ HB.out) hb); clear HO_5; clear HO_7; clear HB; have HO_5 := n0_; have HO_7 := n1_; have HO292 := n2_; have HB := n3_; clear n0_ n1_ n2_ n3_; (try clear hb); (try clear ho0); obtain ⟨Ao25, co25, eo25⟩ := Kd.V_slice HO292.out; subst eo25) | ((with_reducible refine gate_callee (f := 22) rfl ?_); refine goesL_ (some 43) rfl rfl Try.func22 (by kernel_rfl) rfl #[.slice Ao25 t290.length co25, .int .i64 1] rfl (by (try simp only [List.map_toArray, List.map_cons, List.map_nil]); first | done | rfl | (simp only [List.length_drop, List.length_take]; rfl)) ?_; (with_reducible refine (fullerref08_TakeList.calls kj3 (fun k_ => some k_ ≠ (u7 : Value).ownBlock) _ _ t290 1 t294 t297 t300 _ ?side1 A8.out).mono ?_); (case side1 => first | exact HO292.out | exact Kd.V_mono HO292.out (fun _ h_ => by simpa only [and_assoc, and_comm, and_left_comm] using h_)); rintro e w26 ⟨v295, v298, rfl, ho0, ho1, hb⟩; refine ⟨_, rfl, ?_⟩; have n0_ := Aside0.mk (Kd.V_elder' (mvV_ HO_5.out) (Kd.R_base ho0) hb); have n1_ := Aside0.mk (Kd.R_elder' (mvR_ HO_7.out) (Kd.R_base ho0) hb); have n2_ := Aside0.mk (Kd.V_elder' (mvV_ HO292.out) (Kd.R_base ho0) hb); have n3_ := Aside0.mk (Kd.R_lower (Kd.R_mono (ok' := fun k_ => True) ho0 (fun _ hk_ => trivial)) (below_size (bq0_ HB.out))); have n4_ := Aside0.mk (Kd.V_lower (Kd.V_mono (ok' := fun k_ => some k_ ≠ (v295 : Value).ownBlock ∧ some k_ ≠ (u7 : Value).ownBlock) ho1 (fun k_ hk_ => ⟨hk_.2, Or.elim hk_.1 (fun hs_ => hs_) (fun hn_ => (Kd.fresh' (Kd.R_lt (mvR_ HO_7.out)) k_ hn_))⟩)) (below_size (bq0_ HB.out))); have n5_ := Aside0.mk (below_step (bq0_ HB.out) hb); clear HO_5; clear HO_7; clear HO292; clear HB; have HO_5 := n0_; have HO_7 := n1_; have HO292 := n2_; have HO296 := n3_; have HO299 := n4_; have HB := n5_; clear n0_ n1_ n2_ n3_ n4_ n5_; (try clear hb); (try clear ho0); (try clear ho1); obtain ⟨Ao27, co27, eo27⟩ := Kd.V_slice HO299.out; subst eo27) | ((with_reducible refine gate_callee (f := 22) rfl ?_); refine goesL_ (some 49) rfl rfl Try.func22 (by kernel_rfl) rfl #[.slice Ao27 t297.length co27, .int .i64 8] rfl (by (try simp only [List.map_toArray, List.map_cons, List.map_nil]); first | done | rfl | (simp only [List.length_drop, List.length_take]; rfl)) ?_; (with_reducible refine (fullerref08_TakeList.calls kj3 (fun k_ => (some k_ ≠ (v295 : Value).ownBlock ∧ some k_ ≠ (u7 : Value).ownBlock)) _ _ t297 8 t301 t304 t307 _ ?side1 A9.out).mono ?_); (case side1 => first | exact HO299.out | exact Kd.V_mono HO299.out (fun _ h_ => by simpa only [and_assoc, and_comm, and_left_comm] using h_)); rintro e w28 ⟨v302, v305, rfl, ho0, ho1, hb⟩; refine ⟨_, rfl, ?_⟩; have n0_ := Aside0.mk (Kd.V_elder' (mvV_ HO_5.out) (Kd.R_base ho0) hb); have n1_ := Aside0.mk (Kd.R_elder' (mvR_ HO_7.out) (Kd.R_base ho0) hb); have n2_ := Aside0.mk (Kd.V_elder' (mvV_ HO292.out) (Kd.R_base ho0) hb); have n3_ := Aside0.mk (Kd.R_elder' (mvR_ HO296.out) (Kd.R_base ho0) hb); have n4_ := Aside0.mk (Kd.V_elder' (mvV_ HO299.out) (Kd.R_base ho0) hb); have n5_ := Aside0.mk (Kd.R_lower (Kd.R_new' (Kd.R_mono (ok' := fun k_ => True) ho0 (fun _ hk_ => trivial)) (Kd.R_lt (mvR_ HO296.out))) (below_size (bq0_ HB.out))); have n6_ := Aside0.mk (Kd.V_lower (Kd.V_mono (ok' := fun k_ => some k_ ≠ (v302 : Value).ownBlock ∧ some k_ ≠ (u7 : Value).ownBlock ∧ some k_ ≠ (v295 : Value).ownBlock) ho1 (fun k_ hk_ => ⟨hk_.2, Or.elim hk_.1 (fun hs_ => hs_.2) (fun hn_ => (Kd.fresh' (Kd.R_lt (mvR_ HO_7.out)) k_ hn_)), Or.elim hk_.1 (fun hs_ => hs_.1) (fun hn_ => (Kd.fresh' (Kd.R_lt (mvR_ HO296.out)) k_ hn_))⟩)) (below_size (bq0_ HB.out))); have n7_ := Aside0.mk (below_step (bq0_ HB.out) hb); clear HO_5; clear HO_7; clear HO292; clear HO296; clear HO299; clear HB; have HO_5 := n0_; have HO_7 := n1_; have HO292 := n2_; have HO296 := n3_; have HO299 := n4_; have HO303 := n5_; have HO306 := n6_; have HB := n7_; clear n0_ n1_ n2_ n3_ n4_ n5_ n6_ n7_; (try clear hb); (try clear ho0); (try clear ho1)))
                  go_ret2
                  exact ⟨_, by first | rfl | (simp [errW_none, errW_some] <;> rfl) | (simp [*, errW_none, errW_some] <;> rfl), by first | exact Kd.R_nil _ _ _ _ _ | exact Kd.N_nil _ _ _ _ _ | exact Kd.V_nil _ _ _ _ _ | exact Kd.Q_nil _ _ _ _ _ | exact Kd.S_nil _ _ _ _ _, by repeat (first | (with_reducible first | exact HB.out | apply below_alloc | apply pw_below_drewN | apply below_drew1) | exact HB.out)⟩
              · rw [if_neg c11] at H
                have c11b0 : (t300 == 0) = false := beq_eq_false_iff_ne.mpr c11
                have c11b1 : (t300 != 0) = true := bne_iff_ne.mpr c11
                simp only [Option.some.injEq, Prod.mk.injEq] at H
                obtain ⟨rfl, rfl⟩ := H
                obtain ⟨Ao29, co29, eo29⟩ := Kd.V_slice HO_5.out
                subst eo29
                go_wp2_with (first | ((with_reducible refine gate_callee (f := 21) rfl ?_); refine goesL_ (some 37) rfl rfl Try.func21 (by kernel_rfl) rfl #[.slice Ao29 x5_1.length co29, .int .i64 1] rfl (by (try simp only [List.map_toArray, List.map_cons, List.map_nil]); first | done | rfl | (simp only [List.length_drop, List.length_take]; rfl)) ?_; (with_reducible refine (fullerref08_Take.calls kj3 (fun k_ => some k_ ≠ (u7 : Value).ownBlock) _ _ x5_1 1 t289 t290 t293 _ ?side1 A7.out).mono ?_); (case side1 => first | exact HO_5.out | exact Kd.V_mono HO_5.out (fun _ h_ => by simpa only [and_assoc, and_comm, and_left_comm] using h_)); rintro e w30 ⟨v291, rfl, ho0, hb⟩; refine ⟨_, rfl, ?_⟩; have n0_ := Aside0.mk (Kd.V_below (mvV_ HO_5.out) hb); have n1_ := Aside0.mk (Kd.R_below (mvR_ HO_7.out) hb); have n2_ := Aside0.mk (Kd.V_lower (Kd.V_mono (ok' := fun k_ => some k_ ≠ (u7 : Value).ownBlock) ho0 (fun k_ hk_ => Or.elim hk_ (fun hs_ => hs_) (fun hn_ => (Kd.fresh' (Kd.R_lt (mvR_ HO_7.out)) k_ hn_)))) (below_size (bq0_ HB.out))); have n3_ := Aside0.mk (below_step (bq0_ HB.out) hb); clear HO_5; clear HO_7; clear HB; have HO_5 := n0_; have HO_7 := n1_; have HO292 := n2_; have HB := n3_; clear n0_ n1_ n2_ n3_; (try clear hb); (try clear ho0); obtain ⟨Ao31, co31, eo31⟩ := Kd.V_slice HO292.out; subst eo31) | ((with_reducible refine gate_callee (f := 22) rfl ?_); refine goesL_ (some 43) rfl rfl Try.func22 (by kernel_rfl) rfl #[.slice Ao31 t290.length co31, .int .i64 1] rfl (by (try simp only [List.map_toArray, List.map_cons, List.map_nil]); first | done | rfl | (simp only [List.length_drop, List.length_take]; rfl)) ?_; (with_reducible refine (fullerref08_TakeList.calls kj3 (fun k_ => some k_ ≠ (u7 : Value).ownBlock) _ _ t290 1 t294 t297 t300 _ ?side1 A8.out).mono ?_); (case side1 => first | exact HO292.out | exact Kd.V_mono HO292.out (fun _ h_ => by simpa only [and_assoc, and_comm, and_left_comm] using h_)); rintro e w32 ⟨v295, v298, rfl, ho0, ho1, hb⟩; refine ⟨_, rfl, ?_⟩; have n0_ := Aside0.mk (Kd.V_elder' (mvV_ HO_5.out) (Kd.R_base ho0) hb); have n1_ := Aside0.mk (Kd.R_elder' (mvR_ HO_7.out) (Kd.R_base ho0) hb); have n2_ := Aside0.mk (Kd.V_elder' (mvV_ HO292.out) (Kd.R_base ho0) hb); have n3_ := Aside0.mk (Kd.R_lower (Kd.R_mono (ok' := fun k_ => True) ho0 (fun _ hk_ => trivial)) (below_size (bq0_ HB.out))); have n4_ := Aside0.mk (Kd.V_lower (Kd.V_mono (ok' := fun k_ => some k_ ≠ (v295 : Value).ownBlock ∧ some k_ ≠ (u7 : Value).ownBlock) ho1 (fun k_ hk_ => ⟨hk_.2, Or.elim hk_.1 (fun hs_ => hs_) (fun hn_ => (Kd.fresh' (Kd.R_lt (mvR_ HO_7.out)) k_ hn_))⟩)) (below_size (bq0_ HB.out))); have n5_ := Aside0.mk (below_step (bq0_ HB.out) hb); clear HO_5; clear HO_7; clear HO292; clear HB; have HO_5 := n0_; have HO_7 := n1_; have HO292 := n2_; have HO296 := n3_; have HO299 := n4_; have HB := n5_; clear n0_ n1_ n2_ n3_ n4_ n5_; (try clear hb); (try clear ho0); (try clear ho1); obtain ⟨Ao33, co33, eo33⟩ := Kd.V_slice HO299.out; subst eo33) | ((with_reducible refine gate_callee (f := 22) rfl ?_); refine goesL_ (some 49) rfl rfl Try.func22 (by kernel_rfl) rfl #[.slice Ao33 t297.length co33, .int .i64 8] rfl (by (try simp only [List.map_toArray, List.map_cons, List.map_nil]); first | done | rfl | (simp only [List.length_drop, List.length_take]; rfl)) ?_; (with_reducible refine (fullerref08_TakeList.calls kj3 (fun k_ => (some k_ ≠ (v295 : Value).ownBlock ∧ some k_ ≠ (u7 : Value).ownBlock)) _ _ t297 8 t301 t304 t307 _ ?side1 A9.out).mono ?_); (case side1 => first | exact HO299.out | exact Kd.V_mono HO299.out (fun _ h_ => by simpa only [and_assoc, and_comm, and_left_comm] using h_)); rintro e w34 ⟨v302, v305, rfl, ho0, ho1, hb⟩; refine ⟨_, rfl, ?_⟩; have n0_ := Aside0.mk (Kd.V_elder' (mvV_ HO_5.out) (Kd.R_base ho0) hb); have n1_ := Aside0.mk (Kd.R_elder' (mvR_ HO_7.out) (Kd.R_base ho0) hb); have n2_ := Aside0.mk (Kd.V_elder' (mvV_ HO292.out) (Kd.R_base ho0) hb); have n3_ := Aside0.mk (Kd.R_elder' (mvR_ HO296.out) (Kd.R_base ho0) hb); have n4_ := Aside0.mk (Kd.V_elder' (mvV_ HO299.out) (Kd.R_base ho0) hb); have n5_ := Aside0.mk (Kd.R_lower (Kd.R_new' (Kd.R_mono (ok' := fun k_ => True) ho0 (fun _ hk_ => trivial)) (Kd.R_lt (mvR_ HO296.out))) (below_size (bq0_ HB.out))); have n6_ := Aside0.mk (Kd.V_lower (Kd.V_mono (ok' := fun k_ => some k_ ≠ (v302 : Value).ownBlock ∧ some k_ ≠ (u7 : Value).ownBlock ∧ some k_ ≠ (v295 : Value).ownBlock) ho1 (fun k_ hk_ => ⟨hk_.2, Or.elim hk_.1 (fun hs_ => hs_.2) (fun hn_ => (Kd.fresh' (Kd.R_lt (mvR_ HO_7.out)) k_ hn_)), Or.elim hk_.1 (fun hs_ => hs_.1) (fun hn_ => (Kd.fresh' (Kd.R_lt (mvR_ HO296.out)) k_ hn_))⟩)) (below_size (bq0_ HB.out))); have n7_ := Aside0.mk (below_step (bq0_ HB.out) hb); clear HO_5; clear HO_7; clear HO292; clear HO296; clear HO299; clear HB; have HO_5 := n0_; have HO_7 := n1_; have HO292 := n2_; have HO296 := n3_; have HO299 := n4_; have HO303 := n5_; have HO306 := n6_; have HB := n7_; clear n0_ n1_ n2_ n3_ n4_ n5_ n6_ n7_; (try clear hb); (try clear ho0); (try clear ho1)))
                go_ret2
                exact ⟨_, by first | rfl | (simp [errW_none, errW_some] <;> rfl) | (simp [*, errW_none, errW_some] <;> rfl), by first | exact Kd.R_nil _ _ _ _ _ | exact Kd.N_nil _ _ _ _ _ | exact Kd.V_nil _ _ _ _ _ | exact Kd.Q_nil _ _ _ _ _ | exact Kd.S_nil _ _ _ _ _, by repeat (first | (with_reducible first | exact HB.out | apply below_alloc | apply pw_below_drewN | apply below_drew1) | exact HB.out)⟩
            · rw [if_neg c10] at H
              have c10b0 : (t293 == 0) = false := beq_eq_false_iff_ne.mpr c10
              have c10b1 : (t293 != 0) = true := bne_iff_ne.mpr c10
              simp only [Option.some.injEq, Prod.mk.injEq] at H
              obtain ⟨rfl, rfl⟩ := H
              obtain ⟨Ao35, co35, eo35⟩ := Kd.V_slice HO_5.out
              subst eo35
              go_wp2_with (first | ((with_reducible refine gate_callee (f := 21) rfl ?_); refine goesL_ (some 37) rfl rfl Try.func21 (by kernel_rfl) rfl #[.slice Ao35 x5_1.length co35, .int .i64 1] rfl (by (try simp only [List.map_toArray, List.map_cons, List.map_nil]); first | done | rfl | (simp only [List.length_drop, List.length_take]; rfl)) ?_; (with_reducible refine (fullerref08_Take.calls kj3 (fun k_ => some k_ ≠ (u7 : Value).ownBlock) _ _ x5_1 1 t289 t290 t293 _ ?side1 A7.out).mono ?_); (case side1 => first | exact HO_5.out | exact Kd.V_mono HO_5.out (fun _ h_ => by simpa only [and_assoc, and_comm, and_left_comm] using h_)); rintro e w36 ⟨v291, rfl, ho0, hb⟩; refine ⟨_, rfl, ?_⟩; have n0_ := Aside0.mk (Kd.V_below (mvV_ HO_5.out) hb); have n1_ := Aside0.mk (Kd.R_below (mvR_ HO_7.out) hb); have n2_ := Aside0.mk (Kd.V_lower (Kd.V_mono (ok' := fun k_ => some k_ ≠ (u7 : Value).ownBlock) ho0 (fun k_ hk_ => Or.elim hk_ (fun hs_ => hs_) (fun hn_ => (Kd.fresh' (Kd.R_lt (mvR_ HO_7.out)) k_ hn_)))) (below_size (bq0_ HB.out))); have n3_ := Aside0.mk (below_step (bq0_ HB.out) hb); clear HO_5; clear HO_7; clear HB; have HO_5 := n0_; have HO_7 := n1_; have HO292 := n2_; have HB := n3_; clear n0_ n1_ n2_ n3_; (try clear hb); (try clear ho0); obtain ⟨Ao37, co37, eo37⟩ := Kd.V_slice HO292.out; subst eo37) | ((with_reducible refine gate_callee (f := 22) rfl ?_); refine goesL_ (some 43) rfl rfl Try.func22 (by kernel_rfl) rfl #[.slice Ao37 t290.length co37, .int .i64 1] rfl (by (try simp only [List.map_toArray, List.map_cons, List.map_nil]); first | done | rfl | (simp only [List.length_drop, List.length_take]; rfl)) ?_; (with_reducible refine (fullerref08_TakeList.calls kj3 (fun k_ => some k_ ≠ (u7 : Value).ownBlock) _ _ t290 1 t294 t297 t300 _ ?side1 A8.out).mono ?_); (case side1 => first | exact HO292.out | exact Kd.V_mono HO292.out (fun _ h_ => by simpa only [and_assoc, and_comm, and_left_comm] using h_)); rintro e w38 ⟨v295, v298, rfl, ho0, ho1, hb⟩; refine ⟨_, rfl, ?_⟩; have n0_ := Aside0.mk (Kd.V_elder' (mvV_ HO_5.out) (Kd.R_base ho0) hb); have n1_ := Aside0.mk (Kd.R_elder' (mvR_ HO_7.out) (Kd.R_base ho0) hb); have n2_ := Aside0.mk (Kd.V_elder' (mvV_ HO292.out) (Kd.R_base ho0) hb); have n3_ := Aside0.mk (Kd.R_lower (Kd.R_mono (ok' := fun k_ => True) ho0 (fun _ hk_ => trivial)) (below_size (bq0_ HB.out))); have n4_ := Aside0.mk (Kd.V_lower (Kd.V_mono (ok' := fun k_ => some k_ ≠ (v295 : Value).ownBlock ∧ some k_ ≠ (u7 : Value).ownBlock) ho1 (fun k_ hk_ => ⟨hk_.2, Or.elim hk_.1 (fun hs_ => hs_) (fun hn_ => (Kd.fresh' (Kd.R_lt (mvR_ HO_7.out)) k_ hn_))⟩)) (below_size (bq0_ HB.out))); have n5_ := Aside0.mk (below_step (bq0_ HB.out) hb); clear HO_5; clear HO_7; clear HO292; clear HB; have HO_5 := n0_; have HO_7 := n1_; have HO292 := n2_; have HO296 := n3_; have HO299 := n4_; have HB := n5_; clear n0_ n1_ n2_ n3_ n4_ n5_; (try clear hb); (try clear ho0); (try clear ho1); obtain ⟨Ao39, co39, eo39⟩ := Kd.V_slice HO299.out; subst eo39) | ((with_reducible refine gate_callee (f := 22) rfl ?_); refine goesL_ (some 49) rfl rfl Try.func22 (by kernel_rfl) rfl #[.slice Ao39 t297.length co39, .int .i64 8] rfl (by (try simp only [List.map_toArray, List.map_cons, List.map_nil]); first | done | rfl | (simp only [List.length_drop, List.length_take]; rfl)) ?_; (with_reducible refine (fullerref08_TakeList.calls kj3 (fun k_ => (some k_ ≠ (v295 : Value).ownBlock ∧ some k_ ≠ (u7 : Value).ownBlock)) _ _ t297 8 t301 t304 t307 _ ?side1 A9.out).mono ?_); (case side1 => first | exact HO299.out | exact Kd.V_mono HO299.out (fun _ h_ => by simpa only [and_assoc, and_comm, and_left_comm] using h_)); rintro e w40 ⟨v302, v305, rfl, ho0, ho1, hb⟩; refine ⟨_, rfl, ?_⟩; have n0_ := Aside0.mk (Kd.V_elder' (mvV_ HO_5.out) (Kd.R_base ho0) hb); have n1_ := Aside0.mk (Kd.R_elder' (mvR_ HO_7.out) (Kd.R_base ho0) hb); have n2_ := Aside0.mk (Kd.V_elder' (mvV_ HO292.out) (Kd.R_base ho0) hb); have n3_ := Aside0.mk (Kd.R_elder' (mvR_ HO296.out) (Kd.R_base ho0) hb); have n4_ := Aside0.mk (Kd.V_elder' (mvV_ HO299.out) (Kd.R_base ho0) hb); have n5_ := Aside0.mk (Kd.R_lower (Kd.R_new' (Kd.R_mono (ok' := fun k_ => True) ho0 (fun _ hk_ => trivial)) (Kd.R_lt (mvR_ HO296.out))) (below_size (bq0_ HB.out))); have n6_ := Aside0.mk (Kd.V_lower (Kd.V_mono (ok' := fun k_ => some k_ ≠ (v302 : Value).ownBlock ∧ some k_ ≠ (u7 : Value).ownBlock ∧ some k_ ≠ (v295 : Value).ownBlock) ho1 (fun k_ hk_ => ⟨hk_.2, Or.elim hk_.1 (fun hs_ => hs_.2) (fun hn_ => (Kd.fresh' (Kd.R_lt (mvR_ HO_7.out)) k_ hn_)), Or.elim hk_.1 (fun hs_ => hs_.1) (fun hn_ => (Kd.fresh' (Kd.R_lt (mvR_ HO296.out)) k_ hn_))⟩)) (below_size (bq0_ HB.out))); have n7_ := Aside0.mk (below_step (bq0_ HB.out) hb); clear HO_5; clear HO_7; clear HO292; clear HO296; clear HO299; clear HB; have HO_5 := n0_; have HO_7 := n1_; have HO292 := n2_; have HO296 := n3_; have HO299 := n4_; have HO303 := n5_; have HO306 := n6_; have HB := n7_; clear n0_ n1_ n2_ n3_ n4_ n5_ n6_ n7_; (try clear hb); (try clear ho0); (try clear ho1)))
              go_ret2
              exact ⟨_, by first | rfl | (simp [errW_none, errW_some] <;> rfl) | (simp [*, errW_none, errW_some] <;> rfl), by first | exact Kd.R_nil _ _ _ _ _ | exact Kd.N_nil _ _ _ _ _ | exact Kd.V_nil _ _ _ _ _ | exact Kd.Q_nil _ _ _ _ _ | exact Kd.S_nil _ _ _ _ _, by repeat (first | (with_reducible first | exact HB.out | apply below_alloc | apply pw_below_drewN | apply below_drew1) | exact HB.out)⟩
          · replace c6 := Bool.eq_false_iff.mpr c6
            subst c6
            have H1 : ((fullerref12_Write.f kj3 x7_1).bind fun bt285 => (if t284 = 0 then (if bt285.2 = 0 then (if (strOfNums bt285.1).toList = (strOfNums l0).toList then (some (x7_1, 0)) else (some (([] : List (S36)), 120))) else (some (([] : List (S36)), 120))) else (some (([] : List (S36)), 120)))) = some (r1, r2) := by rw [if_neg (show ¬ (false = true) by decide)] at H; exact H
            clear H
            have H := H1
            clear H1
            replace H := Option.bind_eq_some_iff.mp H
            obtain ⟨⟨t285, t286⟩, A410, H⟩ := H
            replace H : (if t284 = 0 then (if t286 = 0 then (if (strOfNums t285).toList = (strOfNums l0).toList then (some (x7_1, 0)) else (some (([] : List (S36)), 120))) else (some (([] : List (S36)), 120))) else (some (([] : List (S36)), 120))) = some (r1, r2) := H
            have A41 := Aside0.mk A410
            clear A410
            by_cases c42 : t284 = 0
            · rw [if_pos c42] at H
              have c42b0 : (t284 == 0) = true := beq_iff_eq.mpr c42
              have c42b1 : (t284 != 0) = false := bne_eq_false_iff_eq.mpr c42
              clear c42
              by_cases c43 : t286 = 0
              · rw [if_pos c43] at H
                have c43b0 : (t286 == 0) = true := beq_iff_eq.mpr c43
                have c43b1 : (t286 != 0) = false := bne_eq_false_iff_eq.mpr c43
                clear c43
                by_cases c44 : (strOfNums t285).toList = (strOfNums l0).toList
                · rw [if_pos c44] at H
                  have c44b0 : ((strOfNums t285).toList == (strOfNums l0).toList) = true := beq_iff_eq.mpr c44
                  have c44b1 : ((strOfNums t285).toList != (strOfNums l0).toList) = false := bne_eq_false_iff_eq.mpr c44
                  clear c44
                  simp only [Option.some.injEq, Prod.mk.injEq] at H
                  obtain ⟨rfl, rfl⟩ := H
                  obtain ⟨Ao45, co45, eo45⟩ := Kd.R_slice HO_7.out
                  subst eo45
                  go_wp2_with (first | ((with_reducible refine gate_callee (f := 10) rfl ?_); refine goesL_ (some 73) rfl rfl Try.func10 (by kernel_rfl) rfl #[.slice Ao45 x7_1.length co45] rfl (by (try simp only [List.map_toArray, List.map_cons, List.map_nil]); first | done | rfl | (simp only [List.length_drop, List.length_take]; rfl)) ?_; (with_reducible refine (fullerref12_Write.calls kj3 _ _ x7_1 t285 t286 _ ?side1 ?side2 A41.out).mono ?_); (case side1 => exact mvC_ ((Kd.R_reads' HO_7.out).2.2)); (case side2 => exact (Kd.R_reads' HO_7.out).2.1); rintro e w46 ⟨v287, rfl, ho0, hb⟩; refine ⟨_, rfl, ?_⟩; have n0_ := Aside0.mk (Kd.V_elder' (mvV_ HO_5.out) (Kd.R_base ho0) hb); have n1_ := Aside0.mk (Kd.R_below (mvR_ HO_7.out) hb); have n2_ := Aside0.mk (Kd.R_lower ho0 (below_size (bq0_ HB.out))); have n3_ := Aside0.mk (below_step (bq0_ HB.out) hb); clear HO_5; clear HO_7; clear HB; have HO_5 := n0_; have HO_7 := n1_; have HO288 := n2_; have HB := n3_; clear n0_ n1_ n2_ n3_; (try clear hb); (try clear ho0); have hcv47 := own_string (P := Try.prog) Try.underlying23 Try.underlying5 Try.underlying9 (Kd.own_of_R HO288.out); have hcv48 := Kd.C_string (P := Try.prog) (A := A0) (c := c0) Try.underlying23 Try.underlying5 Try.underlying9 (Kd.C_below HR0.out HB.out)))
                  go_ret2
                  exact ⟨_, by first | rfl | (simp [errW_none, errW_some] <;> rfl) | (simp [*, errW_none, errW_some] <;> rfl), by (with_reducible repeat (first | apply Kd.R_alloc | apply Kd.R_drewN | apply Kd.R_drew)); exact HO_7.out, by repeat (first | (with_reducible first | exact HB.out | apply below_alloc | apply pw_below_drewN | apply below_drew1) | exact HB.out)⟩
                · rw [if_neg c44] at H
                  have c44b0 : ((strOfNums t285).toList == (strOfNums l0).toList) = false := beq_eq_false_iff_ne.mpr c44
                  have c44b1 : ((strOfNums t285).toList != (strOfNums l0).toList) = true := bne_iff_ne.mpr c44
                  simp only [Option.some.injEq, Prod.mk.injEq] at H
                  obtain ⟨rfl, rfl⟩ := H
                  obtain ⟨Ao49, co49, eo49⟩ := Kd.R_slice HO_7.out
                  subst eo49
                  go_wp2_with (first | ((with_reducible refine gate_callee (f := 10) rfl ?_); refine goesL_ (some 73) rfl rfl Try.func10 (by kernel_rfl) rfl #[.slice Ao49 x7_1.length co49] rfl (by (try simp only [List.map_toArray, List.map_cons, List.map_nil]); first | done | rfl | (simp only [List.length_drop, List.length_take]; rfl)) ?_; (with_reducible refine (fullerref12_Write.calls kj3 _ _ x7_1 t285 t286 _ ?side1 ?side2 A41.out).mono ?_); (case side1 => exact mvC_ ((Kd.R_reads' HO_7.out).2.2)); (case side2 => exact (Kd.R_reads' HO_7.out).2.1); rintro e w50 ⟨v287, rfl, ho0, hb⟩; refine ⟨_, rfl, ?_⟩; have n0_ := Aside0.mk (Kd.V_elder' (mvV_ HO_5.out) (Kd.R_base ho0) hb); have n1_ := Aside0.mk (Kd.R_below (mvR_ HO_7.out) hb); have n2_ := Aside0.mk (Kd.R_lower ho0 (below_size (bq0_ HB.out))); have n3_ := Aside0.mk (below_step (bq0_ HB.out) hb); clear HO_5; clear HO_7; clear HB; have HO_5 := n0_; have HO_7 := n1_; have HO288 := n2_; have HB := n3_; clear n0_ n1_ n2_ n3_; (try clear hb); (try clear ho0); have hcv51 := own_string (P := Try.prog) Try.underlying23 Try.underlying5 Try.underlying9 (Kd.own_of_R HO288.out); have hcv52 := Kd.C_string (P := Try.prog) (A := A0) (c := c0) Try.underlying23 Try.underlying5 Try.underlying9 (Kd.C_below HR0.out HB.out)))
                  go_ret2
                  exact ⟨_, by first | rfl | (simp [errW_none, errW_some] <;> rfl) | (simp [*, errW_none, errW_some] <;> rfl), by first | exact Kd.R_nil _ _ _ _ _ | exact Kd.N_nil _ _ _ _ _ | exact Kd.V_nil _ _ _ _ _ | exact Kd.Q_nil _ _ _ _ _ | exact Kd.S_nil _ _ _ _ _, by repeat (first | (with_reducible first | exact HB.out | apply below_alloc | apply pw_below_drewN | apply below_drew1) | exact HB.out)⟩
              · rw [if_neg c43] at H
                have c43b0 : (t286 == 0) = false := beq_eq_false_iff_ne.mpr c43
                have c43b1 : (t286 != 0) = true := bne_iff_ne.mpr c43
                simp only [Option.some.injEq, Prod.mk.injEq] at H
                obtain ⟨rfl, rfl⟩ := H
                obtain ⟨Ao53, co53, eo53⟩ := Kd.R_slice HO_7.out
                subst eo53
                go_wp2_with (first | ((with_reducible refine gate_callee (f := 10) rfl ?_); refine goesL_ (some 73) rfl rfl Try.func10 (by kernel_rfl) rfl #[.slice Ao53 x7_1.length co53] rfl (by (try simp only [List.map_toArray, List.map_cons, List.map_nil]); first | done | rfl | (simp only [List.length_drop, List.length_take]; rfl)) ?_; (with_reducible refine (fullerref12_Write.calls kj3 _ _ x7_1 t285 t286 _ ?side1 ?side2 A41.out).mono ?_); (case side1 => exact mvC_ ((Kd.R_reads' HO_7.out).2.2)); (case side2 => exact (Kd.R_reads' HO_7.out).2.1); rintro e w54 ⟨v287, rfl, ho0, hb⟩; refine ⟨_, rfl, ?_⟩; have n0_ := Aside0.mk (Kd.V_elder' (mvV_ HO_5.out) (Kd.R_base ho0) hb); have n1_ := Aside0.mk (Kd.R_below (mvR_ HO_7.out) hb); have n2_ := Aside0.mk (Kd.R_lower ho0 (below_size (bq0_ HB.out))); have n3_ := Aside0.mk (below_step (bq0_ HB.out) hb); clear HO_5; clear HO_7; clear HB; have HO_5 := n0_; have HO_7 := n1_; have HO288 := n2_; have HB := n3_; clear n0_ n1_ n2_ n3_; (try clear hb); (try clear ho0)))
                go_ret2
                exact ⟨_, by first | rfl | (simp [errW_none, errW_some] <;> rfl) | (simp [*, errW_none, errW_some] <;> rfl), by first | exact Kd.R_nil _ _ _ _ _ | exact Kd.N_nil _ _ _ _ _ | exact Kd.V_nil _ _ _ _ _ | exact Kd.Q_nil _ _ _ _ _ | exact Kd.S_nil _ _ _ _ _, by repeat (first | (with_reducible first | exact HB.out | apply below_alloc | apply pw_below_drewN | apply below_drew1) | exact HB.out)⟩
            · rw [if_neg c42] at H
              have c42b0 : (t284 == 0) = false := beq_eq_false_iff_ne.mpr c42
              have c42b1 : (t284 != 0) = true := bne_iff_ne.mpr c42
              simp only [Option.some.injEq, Prod.mk.injEq] at H
              obtain ⟨rfl, rfl⟩ := H
              obtain ⟨Ao55, co55, eo55⟩ := Kd.R_slice HO_7.out
              subst eo55
              go_wp2_with (first | ((with_reducible refine gate_callee (f := 10) rfl ?_); refine goesL_ (some 73) rfl rfl Try.func10 (by kernel_rfl) rfl #[.slice Ao55 x7_1.length co55] rfl (by (try simp only [List.map_toArray, List.map_cons, List.map_nil]); first | done | rfl | (simp only [List.length_drop, List.length_take]; rfl)) ?_; (with_reducible refine (fullerref12_Write.calls kj3 _ _ x7_1 t285 t286 _ ?side1 ?side2 A41.out).mono ?_); (case side1 => exact mvC_ ((Kd.R_reads' HO_7.out).2.2)); (case side2 => exact (Kd.R_reads' HO_7.out).2.1); rintro e w56 ⟨v287, rfl, ho0, hb⟩; refine ⟨_, rfl, ?_⟩; have n0_ := Aside0.mk (Kd.V_elder' (mvV_ HO_5.out) (Kd.R_base ho0) hb); have n1_ := Aside0.mk (Kd.R_below (mvR_ HO_7.out) hb); have n2_ := Aside0.mk (Kd.R_lower ho0 (below_size (bq0_ HB.out))); have n3_ := Aside0.mk (below_step (bq0_ HB.out) hb); clear HO_5; clear HO_7; clear HB; have HO_5 := n0_; have HO_7 := n1_; have HO288 := n2_; have HB := n3_; clear n0_ n1_ n2_ n3_; (try clear hb); (try clear ho0)))
              go_ret2
              exact ⟨_, by first | rfl | (simp [errW_none, errW_some] <;> rfl) | (simp [*, errW_none, errW_some] <;> rfl), by first | exact Kd.R_nil _ _ _ _ _ | exact Kd.N_nil _ _ _ _ _ | exact Kd.V_nil _ _ _ _ _ | exact Kd.Q_nil _ _ _ _ _ | exact Kd.S_nil _ _ _ _ _, by repeat (first | (with_reducible first | exact HB.out | apply below_alloc | apply pw_below_drewN | apply below_drew1) | exact HB.out)⟩

/-! ### fullerlaw12_WireTells: function 3 -/
def fullerlaw12_WireTells.j0 : Nat → List (S36) → List Int → Bool → Bool → Option (Bool)
  | 0, _, _, _, _ => none
  | k + 1, x0, x1, x5, x22 => if x22 = true then (some x5) else ((wire_Write.f k x0).bind fun bt313 => ((fullerref12_Write.f k x0).bind fun bt317 => ((wire_Read.f x1).bind fun bt321 => ((fullerref12_Read.f k x1).bind fun bt325 => (if x5 = true then (if (strOfNums bt313.1).toList = (strOfNums bt317.1).toList then (if bt313.2 = bt317.2 then ((fullerref10_Same.f k bt321.1 bt325.1).bind fun t329 => (if t329 = true then (some (bt321.2 == bt325.2)) else (some false))) else (some false)) else (some false)) else (some false))))))
def fullerlaw12_WireTells.f (k : Nat) (l0 : List (S36)) (l1 : List Int) : Option (Bool) := (fullerlaw12_awake.f k).bind fun t311 => ((fullerref10_Few.f k l0).bind fun t312 => (if t312 = true then (fullerlaw12_WireTells.j0 k l0 l1 t311 (decide ((l1.length : Int) > 5000))) else (fullerlaw12_WireTells.j0 k l0 l1 t311 true)))
theorem fullerlaw12_WireTells.mono_l : ∀ k, (∀ y0 y1 y2 y3, LeO (fullerlaw12_WireTells.j0 k y0 y1 y2 y3) (fullerlaw12_WireTells.j0 (k + 1) y0 y1 y2 y3))
  | 0 => fun _ _ _ _ r h => by simp [fullerlaw12_WireTells.j0] at h
  | k + 1 => by
    have ih0 := fullerlaw12_WireTells.mono_l k
    · intro y0 y1 y2 y3
      unfold fullerlaw12_WireTells.j0
      repeat' first
      | (with_reducible exact ih0 _ _ _ _)
      | (with_reducible exact fullerlaw12_awake.mono _)
      | (with_reducible exact fullerref10_Few.mono _ _)
      | (with_reducible exact fullerref10_Same.mono _ _ _)
      | (with_reducible exact fullerref12_Read.mono _ _)
      | (with_reducible exact fullerref12_Write.mono _ _)
      | (with_reducible exact wire_Write.mono _ _)
      | (with_reducible exact LeO.refl _)
      | (with_reducible exact LeO.none _)
      | (with_reducible refine LeO.ite ?_ ?_)
      | (with_reducible refine LeO.bind ?_ (fun _ => ?_))
      | exact ih0 _ _ _ _
      | exact fullerlaw12_awake.mono _
      | exact fullerref10_Few.mono _ _
      | exact fullerref10_Same.mono _ _ _
      | exact fullerref12_Read.mono _ _
      | exact fullerref12_Write.mono _ _
      | exact wire_Write.mono _ _
      | exact LeO.none _
      | refine LeO.ite ?_ ?_
      | refine LeO.bind ?_ (fun _ => ?_)
theorem fullerlaw12_WireTells.mono : ∀ a0 a1 k, LeO (fullerlaw12_WireTells.f k a0 a1) (fullerlaw12_WireTells.f (k + 1) a0 a1) := by
  intro a0 a1 k
  have ih0 := fullerlaw12_WireTells.mono_l k
  unfold fullerlaw12_WireTells.f
  repeat' first
      | (with_reducible exact ih0 _ _ _ _)
      | (with_reducible exact fullerlaw12_awake.mono _)
      | (with_reducible exact fullerref10_Few.mono _ _)
      | (with_reducible exact fullerref10_Same.mono _ _ _)
      | (with_reducible exact fullerref12_Read.mono _ _)
      | (with_reducible exact fullerref12_Write.mono _ _)
      | (with_reducible exact wire_Write.mono _ _)
      | (with_reducible exact LeO.refl _)
      | (with_reducible exact LeO.none _)
      | (with_reducible refine LeO.ite ?_ ?_)
      | (with_reducible refine LeO.bind ?_ (fun _ => ?_))
      | exact ih0 _ _ _ _
      | exact fullerlaw12_awake.mono _
      | exact fullerref10_Few.mono _ _
      | exact fullerref10_Same.mono _ _ _
      | exact fullerref12_Read.mono _ _
      | exact fullerref12_Write.mono _ _
      | exact wire_Write.mono _ _
      | exact LeO.none _
      | refine LeO.ite ?_ ?_
      | refine LeO.bind ?_ (fun _ => ?_)
set_option maxHeartbeats 8000000 in
set_option maxRecDepth 100000 in
theorem fullerlaw12_WireTells.calls (k : Nat) (A0 : Option Addr) (c0 : Nat) (l0 : List (S36)) (A1 : Option Addr) (c1 : Nat) (l1 : List Int) (r : Bool) (w : World) (hr0 : Kd.C k36 w A0 l0.length l0) (hc0 : l0.length ≤ c0) (hr1 : Kd.C (Kd.int .u8) w A1 l1.length l1) (hc1 : l1.length ≤ c1) (h : fullerlaw12_WireTells.f k l0 l1 = some r) :
    Calls Try.prog 3 #[.slice A0 l0.length c0, .slice A1 l1.length c1] w fun e w' => e = .returned (.bool r) ∧ Below w.heap.size w w' := by
  have HR0 := Aside0.mk hr0
  have HC0 := Aside0.mk hc0
  clear hr0 hc0
  have HR1 := Aside0.mk hr1
  have HC1 := Aside0.mk hc1
  clear hr1 hc1
  have HB := Aside0.mk (Below.refl w.heap.size w)
  have H : ((fullerlaw12_awake.f k).bind fun t311 => ((fullerref10_Few.f k l0).bind fun t312 => (if t312 = true then (fullerlaw12_WireTells.j0 k l0 l1 t311 (decide ((l1.length : Int) > 5000))) else (fullerlaw12_WireTells.j0 k l0 l1 t311 true)))) = some r := h
  clear h
  replace H := Option.bind_eq_some_iff.mp H
  obtain ⟨t311, A30, H⟩ := H
  replace H : ((fullerref10_Few.f k l0).bind fun t312 => (if t312 = true then (fullerlaw12_WireTells.j0 k l0 l1 t311 (decide ((l1.length : Int) > 5000))) else (fullerlaw12_WireTells.j0 k l0 l1 t311 true))) = some r := H
  have A3 := Aside0.mk A30
  clear A30
  have HC4 := Aside0.mk H
  clear H
  go_enter Try.func3, Try.ntmps3
  go_upto_region 2 with (first | ((with_reducible refine gate_callee (f := 7) rfl ?_); refine goesL_ (some 14) rfl rfl Try.func7 (by kernel_rfl) rfl #[] rfl (by (try simp only [List.map_toArray, List.map_cons, List.map_nil]); first | done | rfl | (simp only [List.length_drop, List.length_take]; rfl)) ?_; (with_reducible refine (fullerlaw12_awake.calls k  t311 _ A3.out).mono ?_); rintro e w5 ⟨rfl, hb⟩; refine ⟨_, rfl, ?_⟩; have n0_ := Aside0.mk (below_step (bq0_ HB.out) hb); clear HB; have HB := n0_; clear n0_; (try clear hb)))
  (try simp only [Act.put, List.setIfInBounds_toArray, List.set_cons_zero, List.set_cons_succ])
  go_cut [22] (fun v22 wc => ∃ (kq : Nat) (x22_3 : Bool), v22 = .bool x22_3 ∧ Aside0 (fullerlaw12_WireTells.j0 kq l0 l1 t311 x22_3 = some r) ∧ Aside0 (kq ≤ k) ∧ Aside0 (Below w.heap.size w wc))
  case first =>
    have H := HC4.out
    clear HC4
    replace H := Option.bind_eq_some_iff.mp H
    obtain ⟨t312, A60, H⟩ := H
    replace H : (if t312 = true then (fullerlaw12_WireTells.j0 k l0 l1 t311 (decide ((l1.length : Int) > 5000))) else (fullerlaw12_WireTells.j0 k l0 l1 t311 true)) = some r := H
    have A6 := Aside0.mk A60
    clear A60
    by_cases c7 : t312 = true
    · subst c7
      have H1 : (fullerlaw12_WireTells.j0 k l0 l1 t311 (decide ((l1.length : Int) > 5000))) = some r := by rw [if_pos rfl] at H; exact H
      clear H
      have H := H1
      clear H1
      have H' := Aside0.mk H
      clear H
      go_wp2_with (first | ((with_reducible refine gate_callee (f := 8) rfl ?_); refine goesL_ (some 16) rfl rfl Try.func8 (by kernel_rfl) rfl #[.slice A0 l0.length c0] rfl (by (try simp only [List.map_toArray, List.map_cons, List.map_nil]); first | done | rfl | (simp only [List.length_drop, List.length_take]; rfl)) ?_; (with_reducible refine (fullerref10_Few.calls k _ _ l0 true _ ?side1 ?side2 A6.out).mono ?_); (case side1 => exact mvC_ ((Kd.C_below HR0.out HB.out))); (case side2 => exact HC0.out); rintro e w' ⟨rfl, ⟨nd, rfl⟩⟩; refine ⟨_, rfl, ?_⟩))
      go_meet
      case rel => exact ⟨_, (decide ((l1.length : Int) > 5000)), (by first | rfl | (simp; done) | (simp [*]; done)), H', ⟨by first | omega | exact Nat.le_refl _⟩, ⟨by repeat (first | (with_reducible first | exact HB.out | apply below_alloc | apply pw_below_drewN | apply below_drew1) | exact HB.out)⟩⟩
    · replace c7 := Bool.eq_false_iff.mpr c7
      subst c7
      have H1 : (fullerlaw12_WireTells.j0 k l0 l1 t311 true) = some r := by rw [if_neg (show ¬ (false = true) by decide)] at H; exact H
      clear H
      have H := H1
      clear H1
      have H' := Aside0.mk H
      clear H
      go_wp2_with (first | ((with_reducible refine gate_callee (f := 8) rfl ?_); refine goesL_ (some 16) rfl rfl Try.func8 (by kernel_rfl) rfl #[.slice A0 l0.length c0] rfl (by (try simp only [List.map_toArray, List.map_cons, List.map_nil]); first | done | rfl | (simp only [List.length_drop, List.length_take]; rfl)) ?_; (with_reducible refine (fullerref10_Few.calls k _ _ l0 false _ ?side1 ?side2 A6.out).mono ?_); (case side1 => exact mvC_ ((Kd.C_below HR0.out HB.out))); (case side2 => exact HC0.out); rintro e w' ⟨rfl, ⟨nd, rfl⟩⟩; refine ⟨_, rfl, ?_⟩))
      go_meet
      case rel => exact ⟨_, (true), (by first | rfl | (simp; done) | (simp [*]; done)), H', ⟨by first | omega | exact Nat.le_refl _⟩, ⟨by repeat (first | (with_reducible first | exact HB.out | apply below_alloc | apply pw_below_drewN | apply below_drew1) | exact HB.out)⟩⟩
  case rest =>
    clear HC4
    try clear c1
    try clear p2
    try clear c3
    try clear c7
    obtain ⟨kq, x22_3, rfl, HA, HJ3, HB⟩ := hcut
    cases kq with
    | zero => exact absurd HA.out (by simp [fullerlaw12_WireTells.j0])
    | succ kj3 =>
      have H := HA.out
      clear HA
      simp only [fullerlaw12_WireTells.j0] at H
      by_cases c8 : x22_3 = true
      · subst c8
        have H1 : (some t311) = some r := by rw [if_pos rfl] at H; exact H
        clear H
        have H := H1
        clear H1
        obtain rfl := Option.some.inj H
        go_wp2
        go_ret
        exact ⟨by first | rfl | (simp [errW_none, errW_some] <;> rfl) | (simp [*, errW_none, errW_some] <;> rfl), by repeat (first | (with_reducible first | exact HB.out | apply below_alloc | apply pw_below_drewN | apply below_drew1) | exact HB.out)⟩
      · replace c8 := Bool.eq_false_iff.mpr c8
        subst c8
        have H1 : ((wire_Write.f kj3 l0).bind fun bt313 => ((fullerref12_Write.f kj3 l0).bind fun bt317 => ((wire_Read.f l1).bind fun bt321 => ((fullerref12_Read.f kj3 l1).bind fun bt325 => (if t311 = true then (if (strOfNums bt313.1).toList = (strOfNums bt317.1).toList then (if bt313.2 = bt317.2 then ((fullerref10_Same.f kj3 bt321.1 bt325.1).bind fun t329 => (if t329 = true then (some (bt321.2 == bt325.2)) else (some false))) else (some false)) else (some false)) else (some false)))))) = some r := by rw [if_neg (show ¬ (false = true) by decide)] at H; exact H
        clear H
        have H := H1
        clear H1
        replace H := Option.bind_eq_some_iff.mp H
        obtain ⟨⟨t313, t314⟩, A90, H⟩ := H
        replace H : ((fullerref12_Write.f kj3 l0).bind fun bt317 => ((wire_Read.f l1).bind fun bt321 => ((fullerref12_Read.f kj3 l1).bind fun bt325 => (if t311 = true then (if (strOfNums t313).toList = (strOfNums bt317.1).toList then (if t314 = bt317.2 then ((fullerref10_Same.f kj3 bt321.1 bt325.1).bind fun t329 => (if t329 = true then (some (bt321.2 == bt325.2)) else (some false))) else (some false)) else (some false)) else (some false))))) = some r := H
        have A9 := Aside0.mk A90
        clear A90
        replace H := Option.bind_eq_some_iff.mp H
        obtain ⟨⟨t317, t318⟩, A100, H⟩ := H
        replace H : ((wire_Read.f l1).bind fun bt321 => ((fullerref12_Read.f kj3 l1).bind fun bt325 => (if t311 = true then (if (strOfNums t313).toList = (strOfNums t317).toList then (if t314 = t318 then ((fullerref10_Same.f kj3 bt321.1 bt325.1).bind fun t329 => (if t329 = true then (some (bt321.2 == bt325.2)) else (some false))) else (some false)) else (some false)) else (some false)))) = some r := H
        have A10 := Aside0.mk A100
        clear A100
        replace H := Option.bind_eq_some_iff.mp H
        obtain ⟨⟨t321, t322⟩, A110, H⟩ := H
        replace H : ((fullerref12_Read.f kj3 l1).bind fun bt325 => (if t311 = true then (if (strOfNums t313).toList = (strOfNums t317).toList then (if t314 = t318 then ((fullerref10_Same.f kj3 t321 bt325.1).bind fun t329 => (if t329 = true then (some (t322 == bt325.2)) else (some false))) else (some false)) else (some false)) else (some false))) = some r := H
        have A11 := Aside0.mk A110
        clear A110
        replace H := Option.bind_eq_some_iff.mp H
        obtain ⟨⟨t325, t326⟩, A120, H⟩ := H
        replace H : (if t311 = true then (if (strOfNums t313).toList = (strOfNums t317).toList then (if t314 = t318 then ((fullerref10_Same.f kj3 t321 t325).bind fun t329 => (if t329 = true then (some (t322 == t326)) else (some false))) else (some false)) else (some false)) else (some false)) = some r := H
        have A12 := Aside0.mk A120
        clear A120
        by_cases c13 : t311 = true
        · subst c13
          have H1 : (if (strOfNums t313).toList = (strOfNums t317).toList then (if t314 = t318 then ((fullerref10_Same.f kj3 t321 t325).bind fun t329 => (if t329 = true then (some (t322 == t326)) else (some false))) else (some false)) else (some false)) = some r := by rw [if_pos rfl] at H; exact H
          clear H
          have H := H1
          clear H1
          by_cases c14 : (strOfNums t313).toList = (strOfNums t317).toList
          · rw [if_pos c14] at H
            have c14b0 : ((strOfNums t313).toList == (strOfNums t317).toList) = true := beq_iff_eq.mpr c14
            have c14b1 : ((strOfNums t313).toList != (strOfNums t317).toList) = false := bne_eq_false_iff_eq.mpr c14
            clear c14
            by_cases c15 : t314 = t318
            · rw [if_pos c15] at H
              have c15b0 : (t314 == t318) = true := beq_iff_eq.mpr c15
              have c15b1 : (t314 != t318) = false := bne_eq_false_iff_eq.mpr c15
              clear c15
              replace H := Option.bind_eq_some_iff.mp H
              obtain ⟨t329, A160, H⟩ := H
              replace H : (if t329 = true then (some (t322 == t326)) else (some false)) = some r := H
              have A16 := Aside0.mk A160
              clear A160
              by_cases c17 : t329 = true
              · subst c17
                have H1 : (some (t322 == t326)) = some r := by rw [if_pos rfl] at H; exact H
                clear H
                have H := H1
                clear H1
                obtain rfl := Option.some.inj H
                go_wp2_with (first | ((with_reducible refine gate_callee (f := 9) rfl ?_); refine goesL_ (some 26) rfl rfl Try.func9 (by kernel_rfl) rfl #[.slice A0 l0.length c0] rfl (by (try simp only [List.map_toArray, List.map_cons, List.map_nil]); first | done | rfl | (simp only [List.length_drop, List.length_take]; rfl)) ?_; (with_reducible refine (wire_Write.calls kj3 _ _ l0 t313 t314 _ ?side1 ?side2 A9.out).mono ?_); (case side1 => exact mvC_ ((Kd.C_below HR0.out HB.out))); (case side2 => exact HC0.out); rintro e w18 ⟨v315, rfl, ho0, hb⟩; refine ⟨_, rfl, ?_⟩; have n0_ := Aside0.mk (Kd.R_lower ho0 (below_size (bq0_ HB.out))); have n1_ := Aside0.mk (below_step (bq0_ HB.out) hb); clear HB; have HO316 := n0_; have HB := n1_; clear n0_ n1_; (try clear hb); (try clear ho0)) | ((with_reducible refine gate_callee (f := 10) rfl ?_); refine goesL_ (some 31) rfl rfl Try.func10 (by kernel_rfl) rfl #[.slice A0 l0.length c0] rfl (by (try simp only [List.map_toArray, List.map_cons, List.map_nil]); first | done | rfl | (simp only [List.length_drop, List.length_take]; rfl)) ?_; (with_reducible refine (fullerref12_Write.calls kj3 _ _ l0 t317 t318 _ ?side1 ?side2 A10.out).mono ?_); (case side1 => exact mvC_ ((Kd.C_below HR0.out HB.out))); (case side2 => exact HC0.out); rintro e w19 ⟨v319, rfl, ho0, hb⟩; refine ⟨_, rfl, ?_⟩; have n0_ := Aside0.mk (Kd.R_elder' (mvR_ HO316.out) (Kd.R_base ho0) hb); have n1_ := Aside0.mk (Kd.R_lower (Kd.R_new' ho0 (Kd.R_lt (mvR_ HO316.out))) (below_size (bq0_ HB.out))); have n2_ := Aside0.mk (below_step (bq0_ HB.out) hb); clear HO316; clear HB; have HO316 := n0_; have HO320 := n1_; have HB := n2_; clear n0_ n1_ n2_; (try clear hb); (try clear ho0)) | ((with_reducible refine gate_callee (f := 11) rfl ?_); refine goesL_ (some 36) rfl rfl Try.func11 (by kernel_rfl) rfl #[.slice A1 l1.length c1] rfl (by (try simp only [List.map_toArray, List.map_cons, List.map_nil]); first | done | rfl | (simp only [List.length_drop, List.length_take]; rfl)) ?_; (with_reducible refine (wire_Read.calls _ _ l1 t321 t322 _ ?side1 ?side2 A11.out).mono ?_); (case side1 => exact mvC_ ((Kd.C_below HR1.out HB.out))); (case side2 => exact HC1.out); rintro e w20 ⟨v323, rfl, ho0, hb⟩; refine ⟨_, rfl, ?_⟩; have n0_ := Aside0.mk (Kd.R_below (mvR_ HO316.out) hb); have n1_ := Aside0.mk (Kd.R_below (mvR_ HO320.out) hb); have n2_ := Aside0.mk (Kd.R_lower ho0 (below_size (bq0_ HB.out))); have n3_ := Aside0.mk (below_step (bq0_ HB.out) hb); clear HO316; clear HO320; clear HB; have HO316 := n0_; have HO320 := n1_; have HO324 := n2_; have HB := n3_; clear n0_ n1_ n2_ n3_; (try clear hb); (try clear ho0)) | ((with_reducible refine gate_callee (f := 12) rfl ?_); refine goesL_ (some 41) rfl rfl Try.func12 (by kernel_rfl) rfl #[.slice A1 l1.length c1] rfl (by (try simp only [List.map_toArray, List.map_cons, List.map_nil]); first | done | rfl | (simp only [List.length_drop, List.length_take]; rfl)) ?_; (with_reducible refine (fullerref12_Read.calls kj3 _ _ l1 t325 t326 _ ?side1 ?side2 A12.out).mono ?_); (case side1 => exact mvC_ ((Kd.C_below HR1.out HB.out))); (case side2 => exact HC1.out); rintro e w21 ⟨v327, rfl, ho0, hb⟩; refine ⟨_, rfl, ?_⟩; have n0_ := Aside0.mk (Kd.R_below (mvR_ HO316.out) hb); have n1_ := Aside0.mk (Kd.R_below (mvR_ HO320.out) hb); have n2_ := Aside0.mk (Kd.R_elder' (mvR_ HO324.out) (Kd.R_base ho0) hb); have n3_ := Aside0.mk (Kd.R_lower (Kd.R_new' ho0 (Kd.R_lt (mvR_ HO324.out))) (below_size (bq0_ HB.out))); have n4_ := Aside0.mk (below_step (bq0_ HB.out) hb); clear HO316; clear HO320; clear HO324; clear HB; have HO316 := n0_; have HO320 := n1_; have HO324 := n2_; have HO328 := n3_; have HB := n4_; clear n0_ n1_ n2_ n3_ n4_; (try clear hb); (try clear ho0); have hcv22 := own_string (P := Try.prog) Try.underlying23 Try.underlying5 Try.underlying9 (Kd.own_of_R HO316.out); have hcv23 := own_string (P := Try.prog) Try.underlying23 Try.underlying5 Try.underlying9 (Kd.own_of_R HO320.out); obtain ⟨Ao24, co24, eo24⟩ := Kd.R_slice HO324.out; subst eo24; obtain ⟨Ao25, co25, eo25⟩ := Kd.R_slice HO328.out; subst eo25) | (go_at_call 13; (with_reducible refine (fullerref10_Same.calls kj3 _ _ t321 _ _ t325 true _ ?side1 ?side2 ?side3 ?side4 A16.out).mono ?_); (case side1 => exact mvC_ ((Kd.R_reads' HO324.out).2.2)); (case side2 => exact (Kd.R_reads' HO324.out).2.1); (case side3 => exact mvC_ ((Kd.R_reads' HO328.out).2.2)); (case side4 => exact (Kd.R_reads' HO328.out).2.1); rintro e w' ⟨rfl, ⟨nd, rfl⟩⟩))
                go_ret
                exact ⟨by first | rfl | (simp [errW_none, errW_some] <;> rfl) | (simp [*, errW_none, errW_some] <;> rfl), by repeat (first | (with_reducible first | exact HB.out | apply below_alloc | apply pw_below_drewN | apply below_drew1) | exact HB.out)⟩
              · replace c17 := Bool.eq_false_iff.mpr c17
                subst c17
                have H1 : (some false) = some r := by rw [if_neg (show ¬ (false = true) by decide)] at H; exact H
                clear H
                have H := H1
                clear H1
                obtain rfl := Option.some.inj H
                go_wp2_with (first | ((with_reducible refine gate_callee (f := 9) rfl ?_); refine goesL_ (some 26) rfl rfl Try.func9 (by kernel_rfl) rfl #[.slice A0 l0.length c0] rfl (by (try simp only [List.map_toArray, List.map_cons, List.map_nil]); first | done | rfl | (simp only [List.length_drop, List.length_take]; rfl)) ?_; (with_reducible refine (wire_Write.calls kj3 _ _ l0 t313 t314 _ ?side1 ?side2 A9.out).mono ?_); (case side1 => exact mvC_ ((Kd.C_below HR0.out HB.out))); (case side2 => exact HC0.out); rintro e w26 ⟨v315, rfl, ho0, hb⟩; refine ⟨_, rfl, ?_⟩; have n0_ := Aside0.mk (Kd.R_lower ho0 (below_size (bq0_ HB.out))); have n1_ := Aside0.mk (below_step (bq0_ HB.out) hb); clear HB; have HO316 := n0_; have HB := n1_; clear n0_ n1_; (try clear hb); (try clear ho0)) | ((with_reducible refine gate_callee (f := 10) rfl ?_); refine goesL_ (some 31) rfl rfl Try.func10 (by kernel_rfl) rfl #[.slice A0 l0.length c0] rfl (by (try simp only [List.map_toArray, List.map_cons, List.map_nil]); first | done | rfl | (simp only [List.length_drop, List.length_take]; rfl)) ?_; (with_reducible refine (fullerref12_Write.calls kj3 _ _ l0 t317 t318 _ ?side1 ?side2 A10.out).mono ?_); (case side1 => exact mvC_ ((Kd.C_below HR0.out HB.out))); (case side2 => exact HC0.out); rintro e w27 ⟨v319, rfl, ho0, hb⟩; refine ⟨_, rfl, ?_⟩; have n0_ := Aside0.mk (Kd.R_elder' (mvR_ HO316.out) (Kd.R_base ho0) hb); have n1_ := Aside0.mk (Kd.R_lower (Kd.R_new' ho0 (Kd.R_lt (mvR_ HO316.out))) (below_size (bq0_ HB.out))); have n2_ := Aside0.mk (below_step (bq0_ HB.out) hb); clear HO316; clear HB; have HO316 := n0_; have HO320 := n1_; have HB := n2_; clear n0_ n1_ n2_; (try clear hb); (try clear ho0)) | ((with_reducible refine gate_callee (f := 11) rfl ?_); refine goesL_ (some 36) rfl rfl Try.func11 (by kernel_rfl) rfl #[.slice A1 l1.length c1] rfl (by (try simp only [List.map_toArray, List.map_cons, List.map_nil]); first | done | rfl | (simp only [List.length_drop, List.length_take]; rfl)) ?_; (with_reducible refine (wire_Read.calls _ _ l1 t321 t322 _ ?side1 ?side2 A11.out).mono ?_); (case side1 => exact mvC_ ((Kd.C_below HR1.out HB.out))); (case side2 => exact HC1.out); rintro e w28 ⟨v323, rfl, ho0, hb⟩; refine ⟨_, rfl, ?_⟩; have n0_ := Aside0.mk (Kd.R_below (mvR_ HO316.out) hb); have n1_ := Aside0.mk (Kd.R_below (mvR_ HO320.out) hb); have n2_ := Aside0.mk (Kd.R_lower ho0 (below_size (bq0_ HB.out))); have n3_ := Aside0.mk (below_step (bq0_ HB.out) hb); clear HO316; clear HO320; clear HB; have HO316 := n0_; have HO320 := n1_; have HO324 := n2_; have HB := n3_; clear n0_ n1_ n2_ n3_; (try clear hb); (try clear ho0)) | ((with_reducible refine gate_callee (f := 12) rfl ?_); refine goesL_ (some 41) rfl rfl Try.func12 (by kernel_rfl) rfl #[.slice A1 l1.length c1] rfl (by (try simp only [List.map_toArray, List.map_cons, List.map_nil]); first | done | rfl | (simp only [List.length_drop, List.length_take]; rfl)) ?_; (with_reducible refine (fullerref12_Read.calls kj3 _ _ l1 t325 t326 _ ?side1 ?side2 A12.out).mono ?_); (case side1 => exact mvC_ ((Kd.C_below HR1.out HB.out))); (case side2 => exact HC1.out); rintro e w29 ⟨v327, rfl, ho0, hb⟩; refine ⟨_, rfl, ?_⟩; have n0_ := Aside0.mk (Kd.R_below (mvR_ HO316.out) hb); have n1_ := Aside0.mk (Kd.R_below (mvR_ HO320.out) hb); have n2_ := Aside0.mk (Kd.R_elder' (mvR_ HO324.out) (Kd.R_base ho0) hb); have n3_ := Aside0.mk (Kd.R_lower (Kd.R_new' ho0 (Kd.R_lt (mvR_ HO324.out))) (below_size (bq0_ HB.out))); have n4_ := Aside0.mk (below_step (bq0_ HB.out) hb); clear HO316; clear HO320; clear HO324; clear HB; have HO316 := n0_; have HO320 := n1_; have HO324 := n2_; have HO328 := n3_; have HB := n4_; clear n0_ n1_ n2_ n3_ n4_; (try clear hb); (try clear ho0); have hcv30 := own_string (P := Try.prog) Try.underlying23 Try.underlying5 Try.underlying9 (Kd.own_of_R HO316.out); have hcv31 := own_string (P := Try.prog) Try.underlying23 Try.underlying5 Try.underlying9 (Kd.own_of_R HO320.out); obtain ⟨Ao32, co32, eo32⟩ := Kd.R_slice HO324.out; subst eo32; obtain ⟨Ao33, co33, eo33⟩ := Kd.R_slice HO328.out; subst eo33) | (go_at_call 13; (with_reducible refine (fullerref10_Same.calls kj3 _ _ t321 _ _ t325 false _ ?side1 ?side2 ?side3 ?side4 A16.out).mono ?_); (case side1 => exact mvC_ ((Kd.R_reads' HO324.out).2.2)); (case side2 => exact (Kd.R_reads' HO324.out).2.1); (case side3 => exact mvC_ ((Kd.R_reads' HO328.out).2.2)); (case side4 => exact (Kd.R_reads' HO328.out).2.1); rintro e w' ⟨rfl, ⟨nd, rfl⟩⟩))
                go_ret
                exact ⟨by first | rfl | (simp [errW_none, errW_some] <;> rfl) | (simp [*, errW_none, errW_some] <;> rfl), by repeat (first | (with_reducible first | exact HB.out | apply below_alloc | apply pw_below_drewN | apply below_drew1) | exact HB.out)⟩
            · rw [if_neg c15] at H
              have c15b0 : (t314 == t318) = false := beq_eq_false_iff_ne.mpr c15
              have c15b1 : (t314 != t318) = true := bne_iff_ne.mpr c15
              obtain rfl := Option.some.inj H
              go_wp2_with (first | ((with_reducible refine gate_callee (f := 9) rfl ?_); refine goesL_ (some 26) rfl rfl Try.func9 (by kernel_rfl) rfl #[.slice A0 l0.length c0] rfl (by (try simp only [List.map_toArray, List.map_cons, List.map_nil]); first | done | rfl | (simp only [List.length_drop, List.length_take]; rfl)) ?_; (with_reducible refine (wire_Write.calls kj3 _ _ l0 t313 t314 _ ?side1 ?side2 A9.out).mono ?_); (case side1 => exact mvC_ ((Kd.C_below HR0.out HB.out))); (case side2 => exact HC0.out); rintro e w34 ⟨v315, rfl, ho0, hb⟩; refine ⟨_, rfl, ?_⟩; have n0_ := Aside0.mk (Kd.R_lower ho0 (below_size (bq0_ HB.out))); have n1_ := Aside0.mk (below_step (bq0_ HB.out) hb); clear HB; have HO316 := n0_; have HB := n1_; clear n0_ n1_; (try clear hb); (try clear ho0)) | ((with_reducible refine gate_callee (f := 10) rfl ?_); refine goesL_ (some 31) rfl rfl Try.func10 (by kernel_rfl) rfl #[.slice A0 l0.length c0] rfl (by (try simp only [List.map_toArray, List.map_cons, List.map_nil]); first | done | rfl | (simp only [List.length_drop, List.length_take]; rfl)) ?_; (with_reducible refine (fullerref12_Write.calls kj3 _ _ l0 t317 t318 _ ?side1 ?side2 A10.out).mono ?_); (case side1 => exact mvC_ ((Kd.C_below HR0.out HB.out))); (case side2 => exact HC0.out); rintro e w35 ⟨v319, rfl, ho0, hb⟩; refine ⟨_, rfl, ?_⟩; have n0_ := Aside0.mk (Kd.R_elder' (mvR_ HO316.out) (Kd.R_base ho0) hb); have n1_ := Aside0.mk (Kd.R_lower (Kd.R_new' ho0 (Kd.R_lt (mvR_ HO316.out))) (below_size (bq0_ HB.out))); have n2_ := Aside0.mk (below_step (bq0_ HB.out) hb); clear HO316; clear HB; have HO316 := n0_; have HO320 := n1_; have HB := n2_; clear n0_ n1_ n2_; (try clear hb); (try clear ho0)) | ((with_reducible refine gate_callee (f := 11) rfl ?_); refine goesL_ (some 36) rfl rfl Try.func11 (by kernel_rfl) rfl #[.slice A1 l1.length c1] rfl (by (try simp only [List.map_toArray, List.map_cons, List.map_nil]); first | done | rfl | (simp only [List.length_drop, List.length_take]; rfl)) ?_; (with_reducible refine (wire_Read.calls _ _ l1 t321 t322 _ ?side1 ?side2 A11.out).mono ?_); (case side1 => exact mvC_ ((Kd.C_below HR1.out HB.out))); (case side2 => exact HC1.out); rintro e w36 ⟨v323, rfl, ho0, hb⟩; refine ⟨_, rfl, ?_⟩; have n0_ := Aside0.mk (Kd.R_below (mvR_ HO316.out) hb); have n1_ := Aside0.mk (Kd.R_below (mvR_ HO320.out) hb); have n2_ := Aside0.mk (Kd.R_lower ho0 (below_size (bq0_ HB.out))); have n3_ := Aside0.mk (below_step (bq0_ HB.out) hb); clear HO316; clear HO320; clear HB; have HO316 := n0_; have HO320 := n1_; have HO324 := n2_; have HB := n3_; clear n0_ n1_ n2_ n3_; (try clear hb); (try clear ho0)) | ((with_reducible refine gate_callee (f := 12) rfl ?_); refine goesL_ (some 41) rfl rfl Try.func12 (by kernel_rfl) rfl #[.slice A1 l1.length c1] rfl (by (try simp only [List.map_toArray, List.map_cons, List.map_nil]); first | done | rfl | (simp only [List.length_drop, List.length_take]; rfl)) ?_; (with_reducible refine (fullerref12_Read.calls kj3 _ _ l1 t325 t326 _ ?side1 ?side2 A12.out).mono ?_); (case side1 => exact mvC_ ((Kd.C_below HR1.out HB.out))); (case side2 => exact HC1.out); rintro e w37 ⟨v327, rfl, ho0, hb⟩; refine ⟨_, rfl, ?_⟩; have n0_ := Aside0.mk (Kd.R_below (mvR_ HO316.out) hb); have n1_ := Aside0.mk (Kd.R_below (mvR_ HO320.out) hb); have n2_ := Aside0.mk (Kd.R_elder' (mvR_ HO324.out) (Kd.R_base ho0) hb); have n3_ := Aside0.mk (Kd.R_lower (Kd.R_new' ho0 (Kd.R_lt (mvR_ HO324.out))) (below_size (bq0_ HB.out))); have n4_ := Aside0.mk (below_step (bq0_ HB.out) hb); clear HO316; clear HO320; clear HO324; clear HB; have HO316 := n0_; have HO320 := n1_; have HO324 := n2_; have HO328 := n3_; have HB := n4_; clear n0_ n1_ n2_ n3_ n4_; (try clear hb); (try clear ho0); have hcv38 := own_string (P := Try.prog) Try.underlying23 Try.underlying5 Try.underlying9 (Kd.own_of_R HO316.out); have hcv39 := own_string (P := Try.prog) Try.underlying23 Try.underlying5 Try.underlying9 (Kd.own_of_R HO320.out)))
              go_ret
              exact ⟨by first | rfl | (simp [errW_none, errW_some] <;> rfl) | (simp [*, errW_none, errW_some] <;> rfl), by repeat (first | (with_reducible first | exact HB.out | apply below_alloc | apply pw_below_drewN | apply below_drew1) | exact HB.out)⟩
          · rw [if_neg c14] at H
            have c14b0 : ((strOfNums t313).toList == (strOfNums t317).toList) = false := beq_eq_false_iff_ne.mpr c14
            have c14b1 : ((strOfNums t313).toList != (strOfNums t317).toList) = true := bne_iff_ne.mpr c14
            obtain rfl := Option.some.inj H
            go_wp2_with (first | ((with_reducible refine gate_callee (f := 9) rfl ?_); refine goesL_ (some 26) rfl rfl Try.func9 (by kernel_rfl) rfl #[.slice A0 l0.length c0] rfl (by (try simp only [List.map_toArray, List.map_cons, List.map_nil]); first | done | rfl | (simp only [List.length_drop, List.length_take]; rfl)) ?_; (with_reducible refine (wire_Write.calls kj3 _ _ l0 t313 t314 _ ?side1 ?side2 A9.out).mono ?_); (case side1 => exact mvC_ ((Kd.C_below HR0.out HB.out))); (case side2 => exact HC0.out); rintro e w40 ⟨v315, rfl, ho0, hb⟩; refine ⟨_, rfl, ?_⟩; have n0_ := Aside0.mk (Kd.R_lower ho0 (below_size (bq0_ HB.out))); have n1_ := Aside0.mk (below_step (bq0_ HB.out) hb); clear HB; have HO316 := n0_; have HB := n1_; clear n0_ n1_; (try clear hb); (try clear ho0)) | ((with_reducible refine gate_callee (f := 10) rfl ?_); refine goesL_ (some 31) rfl rfl Try.func10 (by kernel_rfl) rfl #[.slice A0 l0.length c0] rfl (by (try simp only [List.map_toArray, List.map_cons, List.map_nil]); first | done | rfl | (simp only [List.length_drop, List.length_take]; rfl)) ?_; (with_reducible refine (fullerref12_Write.calls kj3 _ _ l0 t317 t318 _ ?side1 ?side2 A10.out).mono ?_); (case side1 => exact mvC_ ((Kd.C_below HR0.out HB.out))); (case side2 => exact HC0.out); rintro e w41 ⟨v319, rfl, ho0, hb⟩; refine ⟨_, rfl, ?_⟩; have n0_ := Aside0.mk (Kd.R_elder' (mvR_ HO316.out) (Kd.R_base ho0) hb); have n1_ := Aside0.mk (Kd.R_lower (Kd.R_new' ho0 (Kd.R_lt (mvR_ HO316.out))) (below_size (bq0_ HB.out))); have n2_ := Aside0.mk (below_step (bq0_ HB.out) hb); clear HO316; clear HB; have HO316 := n0_; have HO320 := n1_; have HB := n2_; clear n0_ n1_ n2_; (try clear hb); (try clear ho0)) | ((with_reducible refine gate_callee (f := 11) rfl ?_); refine goesL_ (some 36) rfl rfl Try.func11 (by kernel_rfl) rfl #[.slice A1 l1.length c1] rfl (by (try simp only [List.map_toArray, List.map_cons, List.map_nil]); first | done | rfl | (simp only [List.length_drop, List.length_take]; rfl)) ?_; (with_reducible refine (wire_Read.calls _ _ l1 t321 t322 _ ?side1 ?side2 A11.out).mono ?_); (case side1 => exact mvC_ ((Kd.C_below HR1.out HB.out))); (case side2 => exact HC1.out); rintro e w42 ⟨v323, rfl, ho0, hb⟩; refine ⟨_, rfl, ?_⟩; have n0_ := Aside0.mk (Kd.R_below (mvR_ HO316.out) hb); have n1_ := Aside0.mk (Kd.R_below (mvR_ HO320.out) hb); have n2_ := Aside0.mk (Kd.R_lower ho0 (below_size (bq0_ HB.out))); have n3_ := Aside0.mk (below_step (bq0_ HB.out) hb); clear HO316; clear HO320; clear HB; have HO316 := n0_; have HO320 := n1_; have HO324 := n2_; have HB := n3_; clear n0_ n1_ n2_ n3_; (try clear hb); (try clear ho0)) | ((with_reducible refine gate_callee (f := 12) rfl ?_); refine goesL_ (some 41) rfl rfl Try.func12 (by kernel_rfl) rfl #[.slice A1 l1.length c1] rfl (by (try simp only [List.map_toArray, List.map_cons, List.map_nil]); first | done | rfl | (simp only [List.length_drop, List.length_take]; rfl)) ?_; (with_reducible refine (fullerref12_Read.calls kj3 _ _ l1 t325 t326 _ ?side1 ?side2 A12.out).mono ?_); (case side1 => exact mvC_ ((Kd.C_below HR1.out HB.out))); (case side2 => exact HC1.out); rintro e w43 ⟨v327, rfl, ho0, hb⟩; refine ⟨_, rfl, ?_⟩; have n0_ := Aside0.mk (Kd.R_below (mvR_ HO316.out) hb); have n1_ := Aside0.mk (Kd.R_below (mvR_ HO320.out) hb); have n2_ := Aside0.mk (Kd.R_elder' (mvR_ HO324.out) (Kd.R_base ho0) hb); have n3_ := Aside0.mk (Kd.R_lower (Kd.R_new' ho0 (Kd.R_lt (mvR_ HO324.out))) (below_size (bq0_ HB.out))); have n4_ := Aside0.mk (below_step (bq0_ HB.out) hb); clear HO316; clear HO320; clear HO324; clear HB; have HO316 := n0_; have HO320 := n1_; have HO324 := n2_; have HO328 := n3_; have HB := n4_; clear n0_ n1_ n2_ n3_ n4_; (try clear hb); (try clear ho0); have hcv44 := own_string (P := Try.prog) Try.underlying23 Try.underlying5 Try.underlying9 (Kd.own_of_R HO316.out); have hcv45 := own_string (P := Try.prog) Try.underlying23 Try.underlying5 Try.underlying9 (Kd.own_of_R HO320.out)))
            go_ret
            exact ⟨by first | rfl | (simp [errW_none, errW_some] <;> rfl) | (simp [*, errW_none, errW_some] <;> rfl), by repeat (first | (with_reducible first | exact HB.out | apply below_alloc | apply pw_below_drewN | apply below_drew1) | exact HB.out)⟩
        · replace c13 := Bool.eq_false_iff.mpr c13
          subst c13
          have H1 : (some false) = some r := by rw [if_neg (show ¬ (false = true) by decide)] at H; exact H
          clear H
          have H := H1
          clear H1
          obtain rfl := Option.some.inj H
          go_wp2_with (first | ((with_reducible refine gate_callee (f := 9) rfl ?_); refine goesL_ (some 26) rfl rfl Try.func9 (by kernel_rfl) rfl #[.slice A0 l0.length c0] rfl (by (try simp only [List.map_toArray, List.map_cons, List.map_nil]); first | done | rfl | (simp only [List.length_drop, List.length_take]; rfl)) ?_; (with_reducible refine (wire_Write.calls kj3 _ _ l0 t313 t314 _ ?side1 ?side2 A9.out).mono ?_); (case side1 => exact mvC_ ((Kd.C_below HR0.out HB.out))); (case side2 => exact HC0.out); rintro e w46 ⟨v315, rfl, ho0, hb⟩; refine ⟨_, rfl, ?_⟩; have n0_ := Aside0.mk (Kd.R_lower ho0 (below_size (bq0_ HB.out))); have n1_ := Aside0.mk (below_step (bq0_ HB.out) hb); clear HB; have HO316 := n0_; have HB := n1_; clear n0_ n1_; (try clear hb); (try clear ho0)) | ((with_reducible refine gate_callee (f := 10) rfl ?_); refine goesL_ (some 31) rfl rfl Try.func10 (by kernel_rfl) rfl #[.slice A0 l0.length c0] rfl (by (try simp only [List.map_toArray, List.map_cons, List.map_nil]); first | done | rfl | (simp only [List.length_drop, List.length_take]; rfl)) ?_; (with_reducible refine (fullerref12_Write.calls kj3 _ _ l0 t317 t318 _ ?side1 ?side2 A10.out).mono ?_); (case side1 => exact mvC_ ((Kd.C_below HR0.out HB.out))); (case side2 => exact HC0.out); rintro e w47 ⟨v319, rfl, ho0, hb⟩; refine ⟨_, rfl, ?_⟩; have n0_ := Aside0.mk (Kd.R_elder' (mvR_ HO316.out) (Kd.R_base ho0) hb); have n1_ := Aside0.mk (Kd.R_lower (Kd.R_new' ho0 (Kd.R_lt (mvR_ HO316.out))) (below_size (bq0_ HB.out))); have n2_ := Aside0.mk (below_step (bq0_ HB.out) hb); clear HO316; clear HB; have HO316 := n0_; have HO320 := n1_; have HB := n2_; clear n0_ n1_ n2_; (try clear hb); (try clear ho0)) | ((with_reducible refine gate_callee (f := 11) rfl ?_); refine goesL_ (some 36) rfl rfl Try.func11 (by kernel_rfl) rfl #[.slice A1 l1.length c1] rfl (by (try simp only [List.map_toArray, List.map_cons, List.map_nil]); first | done | rfl | (simp only [List.length_drop, List.length_take]; rfl)) ?_; (with_reducible refine (wire_Read.calls _ _ l1 t321 t322 _ ?side1 ?side2 A11.out).mono ?_); (case side1 => exact mvC_ ((Kd.C_below HR1.out HB.out))); (case side2 => exact HC1.out); rintro e w48 ⟨v323, rfl, ho0, hb⟩; refine ⟨_, rfl, ?_⟩; have n0_ := Aside0.mk (Kd.R_below (mvR_ HO316.out) hb); have n1_ := Aside0.mk (Kd.R_below (mvR_ HO320.out) hb); have n2_ := Aside0.mk (Kd.R_lower ho0 (below_size (bq0_ HB.out))); have n3_ := Aside0.mk (below_step (bq0_ HB.out) hb); clear HO316; clear HO320; clear HB; have HO316 := n0_; have HO320 := n1_; have HO324 := n2_; have HB := n3_; clear n0_ n1_ n2_ n3_; (try clear hb); (try clear ho0)) | ((with_reducible refine gate_callee (f := 12) rfl ?_); refine goesL_ (some 41) rfl rfl Try.func12 (by kernel_rfl) rfl #[.slice A1 l1.length c1] rfl (by (try simp only [List.map_toArray, List.map_cons, List.map_nil]); first | done | rfl | (simp only [List.length_drop, List.length_take]; rfl)) ?_; (with_reducible refine (fullerref12_Read.calls kj3 _ _ l1 t325 t326 _ ?side1 ?side2 A12.out).mono ?_); (case side1 => exact mvC_ ((Kd.C_below HR1.out HB.out))); (case side2 => exact HC1.out); rintro e w49 ⟨v327, rfl, ho0, hb⟩; refine ⟨_, rfl, ?_⟩; have n0_ := Aside0.mk (Kd.R_below (mvR_ HO316.out) hb); have n1_ := Aside0.mk (Kd.R_below (mvR_ HO320.out) hb); have n2_ := Aside0.mk (Kd.R_elder' (mvR_ HO324.out) (Kd.R_base ho0) hb); have n3_ := Aside0.mk (Kd.R_lower (Kd.R_new' ho0 (Kd.R_lt (mvR_ HO324.out))) (below_size (bq0_ HB.out))); have n4_ := Aside0.mk (below_step (bq0_ HB.out) hb); clear HO316; clear HO320; clear HO324; clear HB; have HO316 := n0_; have HO320 := n1_; have HO324 := n2_; have HO328 := n3_; have HB := n4_; clear n0_ n1_ n2_ n3_ n4_; (try clear hb); (try clear ho0)))
          go_ret
          exact ⟨by first | rfl | (simp [errW_none, errW_some] <;> rfl) | (simp [*, errW_none, errW_some] <;> rfl), by repeat (first | (with_reducible first | exact HB.out | apply below_alloc | apply pw_below_drewN | apply below_drew1) | exact HB.out)⟩

/-- THE ONE PURE STATEMENT of fullerlaw12_WireTells: yours. -/
def fullerlaw12_WireTells.Pure : Prop := ∀ (l0 : List (S36)) (l1 : List Int), (l0.length * 56 ≤ 140737488351232 ∧ ∀ x_ ∈ l0, OK36 x_) → (l1.length * 1 ≤ 140737488351232 ∧ ∀ x_ ∈ l1, (Lit.int .u8 x_).wf = true) → ∃ k, fullerlaw12_WireTells.f k l0 l1 = some true
theorem fullerlaw12_WireTells.walk (P : fullerlaw12_WireTells.Pure) (A0 : Option Addr) (c0 : Nat) (l0 : List (S36)) (A1 : Option Addr) (c1 : Nat) (l1 : List Int) (w : World) (hr0 : Kd.C k36 w A0 l0.length l0) (hc0 : l0.length ≤ c0) (hr1 : Kd.C (Kd.int .u8) w A1 l1.length l1) (hc1 : l1.length ≤ c1) (hg0 : l0.length * 56 ≤ 140737488351232 ∧ ∀ x_ ∈ l0, OK36 x_) (hg1 : l1.length * 1 ≤ 140737488351232 ∧ ∀ x_ ∈ l1, (Lit.int .u8 x_).wf = true) :
    Calls Try.prog 3 #[.slice A0 l0.length c0, .slice A1 l1.length c1] w fun e w' => e = .returned (.bool true) ∧ Below w.heap.size w w' := by
  obtain ⟨k, h⟩ := P l0 l1 hg0 hg1
  refine (fullerlaw12_WireTells.calls k _ _ l0 _ _ l1 true w hr0 hc0 hr1 hc1 h).mono ?_
  rintro e w' ⟨rfl, hd⟩
  exact ⟨rfl, hd⟩

end Go.Proofs.Ytchmfdaebohplaa.A
