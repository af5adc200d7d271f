/- Lean functions that answer as the Go functions do, and the proofs that they do; no conditions. Written by this session's own driver: a scratch copy of the kit's print with the session's additions (wip/xprint). -/
import Derived.Test.YtfoffgbhfokccaaAx0
import Derived.Test.YtfoffgbhfokccaaAx6
import Derived.Test.YtfoffgbhfokccaaAx10
namespace Go.Proofs.Ytfoffgbhfokccaa.A
open Go.RowKit Go.Proofs.YtfoffgbhfokccaaW.PrintWords Go.Proofs.YtfoffgbhfokccaaW.PrintLast Go.Proofs.YtfoffgbhfokccaaW.PrintMore
attribute [local go_sem] max2_int min2_int max_two min_two max_three min_three max_four min_four   -- for this text's walks alone
set_option linter.unusedVariables false
set_option linter.unusedSimpArgs false

/-! ### fullerref09_Read: function 18 -/
def fullerref09_Read.l0 : Nat → List Int → List (S26) → Option ((List (S26)) × Int)
  | 0, _, _ => none
  | k + 1, x0, x4 => if (x0.length : Int) > 0 then ((fullerref09_Take.f k x0).bind fun bt323 => (if bt323.2.2.2 = 0 then (if x4.length < 2932031007402 then (fullerref09_Read.l0 k bt323.2.2.1 (x4 ++ [(⟨bt323.1, bt323.2.1⟩ : S26)])) else (none)) else (some (([] : List (S26)), bt323.2.2.2)))) else (some (x4, 0))
def fullerref09_Read.f (k : Nat) (l0 : List Int) : Option ((List (S26)) × Int) := fullerref09_Read.l0 k l0 ([] : List (S26))
theorem fullerref09_Read.mono_l : ∀ k, (∀ y0 y1, LeO (fullerref09_Read.l0 k y0 y1) (fullerref09_Read.l0 (k + 1) y0 y1))
  | 0 => fun _ _ r h => by simp [fullerref09_Read.l0] at h
  | k + 1 => by
    have ih0 := fullerref09_Read.mono_l k
    · intro y0 y1
      unfold fullerref09_Read.l0
      repeat' first
      | (with_reducible exact ih0 _ _)
      | (with_reducible exact fullerref09_Take.mono _ _)
      | (with_reducible exact LeO.refl _)
      | (with_reducible exact LeO.none _)
      | (with_reducible refine LeO.ite ?_ ?_)
      | (with_reducible refine LeO.bind ?_ (fun _ => ?_))
      | exact ih0 _ _
      | exact fullerref09_Take.mono _ _
      | exact LeO.none _
      | refine LeO.ite ?_ ?_
      | refine LeO.bind ?_ (fun _ => ?_)
theorem fullerref09_Read.mono : ∀ a0 k, LeO (fullerref09_Read.f k a0) (fullerref09_Read.f (k + 1) a0) := by
  intro a0 k
  have ih0 := fullerref09_Read.mono_l k
  unfold fullerref09_Read.f
  repeat' first
      | (with_reducible exact ih0 _ _)
      | (with_reducible exact fullerref09_Take.mono _ _)
      | (with_reducible exact LeO.refl _)
      | (with_reducible exact LeO.none _)
      | (with_reducible refine LeO.ite ?_ ?_)
      | (with_reducible refine LeO.bind ?_ (fun _ => ?_))
      | exact ih0 _ _
      | exact fullerref09_Take.mono _ _
      | exact LeO.none _
      | refine LeO.ite ?_ ?_
      | refine LeO.bind ?_ (fun _ => ?_)
set_option maxHeartbeats 8000000 in
set_option maxRecDepth 100000 in
theorem fullerref09_Read.calls (k : Nat) (P0_ : Nat → Prop) (A0 : Option Addr) (c0 : Nat) (l0 : List Int) (r1 : List (S26)) (r2 : Int) (w : World) (hs0 : Kd.V (Kd.int .u8) 5 w w.heap.size (fun k_ => P0_ k_) (.slice A0 l0.length c0) l0) (h : fullerref09_Read.f k l0 = some (r1, r2)) :
    Calls Try.prog 18 #[.slice A0 l0.length c0] w fun e w' => ∃ v0_ : Value, e = .returned (.tuple #[v0_, .int .i64 r2]) ∧ Kd.S k26 26 w' w.heap.size (fun k_ => (w.heap.size ≤ k_)) v0_ r1 ∧ Below w.heap.size w w' := by
  have hu26 := Try.underlying26
  have HO0 := Aside0.mk (show Kd.V (Kd.int .u8) 5 w w.heap.size (fun k_ => (P0_ k_ ∨ w.heap.size ≤ k_)) (.slice A0 l0.length c0) l0 from Kd.V_mono hs0 (fun k_ hk => .inl hk))
  have HB := Aside0.mk (Below.refl w.heap.size w)
  have H : (fullerref09_Read.l0 k l0 ([] : List (S26))) = some (r1, r2) := h
  clear h
  have H' := Aside0.mk H
  clear H
  go_enter Try.func18, Try.ntmps18
  go_wp2
  go_loopg [0, 4] k (fun kq v0 v4 w' => ∃ (x0_1 : List Int) (x4_1 : List (S26)), Aside0 (fullerref09_Read.l0 kq x0_1 x4_1 = some (r1, r2)) ∧ Aside0 (kq ≤ k) ∧ Aside0 (Kd.V (Kd.int .u8) 5 w' w.heap.size (fun k_ => (P0_ k_ ∨ w.heap.size ≤ k_) ∧ some k_ ≠ (v4 : Value).ownBlock) v0 x0_1) ∧ Aside0 (Kd.S k26 26 w' w.heap.size (fun k_ => (w.heap.size ≤ k_)) v4 x4_1) ∧ Aside0 (Below w.heap.size w w'))
  case atStart => exact ⟨(l0), (([] : List (S26))), H', ⟨Nat.le_refl _⟩, ⟨by (with_reducible repeat (first | apply Kd.V_alloc | apply Kd.V_drewN | apply Kd.V_drew)); exact Kd.V_mono HO0.out (fun _ hk => ⟨hk, (by simp [Value.ownBlock])⟩)⟩, ⟨by first | exact Kd.S_nil _ _ _ _ _ | exact Kd.N_nil _ _ _ _ _ | exact Kd.V_nil _ _ _ _ _ | exact Kd.Q_nil _ _ _ _ _ | exact Kd.R_nil _ _ _ _ _⟩, ⟨by repeat (first | (with_reducible first | exact HB.out | apply below_alloc | apply pw_below_drewN | apply below_drew1) | exact HB.out)⟩⟩
  case round =>
    clear H'
    try clear c1
    obtain ⟨x0_1, x4_1, HA, HK1, HO_0, HO_4, HB⟩ := hrel
    cases gk with
    | zero => exact absurd HA.out (by simp [fullerref09_Read.l0])
    | succ k1 =>
      have H := HA.out
      clear HA
      simp only [fullerref09_Read.l0] at H
      by_cases c2 : (x0_1.length : Int) > 0
      · rw [if_pos c2] at H
        have c2b0 : decide (0 < (x0_1.length : Int)) = true := decide_eq_true c2
        have c2b1 : decide (0 < x0_1.length) = true := decide_eq_true (by omega)
        clear c2
        replace H := Option.bind_eq_some_iff.mp H
        obtain ⟨⟨t323, t326, t329, t332⟩, A30, H⟩ := H
        replace H : (if t332 = 0 then (if x4_1.length < 2932031007402 then (fullerref09_Read.l0 k1 t329 (x4_1 ++ [(⟨t323, t326⟩ : S26)])) else (none)) else (some (([] : List (S26)), t332))) = some (r1, r2) := H
        have A3 := Aside0.mk A30
        clear A30
        by_cases c4 : t332 = 0
        · rw [if_pos c4] at H
          have c4b0 : (t332 == 0) = true := beq_iff_eq.mpr c4
          have c4b1 : (t332 != 0) = false := bne_eq_false_iff_eq.mpr c4
          clear c4
          by_cases c5 : x4_1.length < 2932031007402
          · rw [if_pos c5] at H
            have LMc5 := Aside0.mk c5
            clear c5
            obtain ⟨y334, hy334⟩ : ∃ y_ : List (S26), y_ = (x4_1 ++ [(⟨t323, t326⟩ : S26)]) := ⟨_, rfl⟩
            replace H : (fullerref09_Read.l0 k1 t329 y334) = some (r1, r2) := by first | (rw [hy334]; with_reducible exact H) | (have H2_ := (Option.bind_some _ _).symm.trans H; rw [hy334]; with_reducible exact H2_) | (have H2_ := (Option.bind_some _ _).symm.trans H; with_reducible exact H2_) | with_reducible exact H | (rw [hy334]; exact H) | exact H
            have Ny334 := Aside0.mk hy334
            clear hy334
            have H' := Aside0.mk H
            clear H
            obtain ⟨Ao6, co6, eo6⟩ := Kd.V_slice HO_0.out
            subst eo6
            go_wp2_with (first | ((with_reducible refine gate_callee (f := 16) rfl ?_); refine goesL_ (some 13) rfl rfl Try.func16 (by kernel_rfl) rfl #[.slice Ao6 x0_1.length co6] rfl (by (try simp only [List.map_toArray, List.map_cons, List.map_nil]); first | done | rfl | (simp only [List.length_drop, List.length_take]; rfl)) ?_; (with_reducible refine (fullerref09_Take.calls k1 (fun k_ => ((P0_ k_ ∨ w.heap.size ≤ k_) ∧ some k_ ≠ (u4 : Value).ownBlock)) _ _ x0_1 t323 t326 t329 t332 _ ?side1 A3.out).mono ?_); (case side1 => first | exact HO_0.out | exact Kd.V_mono HO_0.out (fun _ h_ => by simpa only [and_assoc, and_comm, and_left_comm] using h_)); rintro e w7 ⟨v324, v327, v330, rfl, ho0, ho1, ho2, hb⟩; refine ⟨_, rfl, ?_⟩; have n0_ := Aside0.mk (Kd.V_mono (Kd.V_told (Kd.V_told (Kd.V_old (mvV_ HO_0.out) hb) (Kd.R_base ho0)) (Kd.R_base ho1)) (fun _ h_ => h_.1)); have n1_ := Aside0.mk (Kd.S_mono (Kd.S_told (Kd.S_told (Kd.S_old (mvS_ HO_4.out) hb) (Kd.R_base ho0)) (Kd.R_base ho1)) (fun _ h_ => h_.1)); have n2_ := Aside0.mk (Kd.R_lower (Kd.R_newM (M := fun k_ => (w.heap.size ≤ k_)) (Kd.R_mono (ok' := fun k_ => some k_ ≠ (v327 : Value).ownBlock) ho0 (fun _ hk_ => hk_.2)) (below_size (bq0_ HB.out)) (fun k_ h_ => h_)) (below_size (bq0_ HB.out))); have n3_ := Aside0.mk (Kd.R_lower (Kd.R_newM (M := fun k_ => (w.heap.size ≤ k_)) (Kd.R_mono (ok' := fun k_ => some k_ ≠ (v324 : Value).ownBlock) ho1 (fun _ hk_ => hk_.2)) (below_size (bq0_ HB.out)) (fun k_ h_ => h_)) (below_size (bq0_ HB.out))); have n4_ := Aside0.mk (Kd.V_lower (Kd.V_mono (ok' := fun k_ => (P0_ k_ ∨ w.heap.size ≤ k_) ∧ some k_ ≠ (v324 : Value).ownBlock ∧ some k_ ≠ (v327 : Value).ownBlock ∧ some k_ ≠ (u4 : Value).ownBlock) ho2 (fun k_ hk_ => ⟨Or.elim hk_.1 (fun hs_ => hs_.1) (fun hn_ => (.inr (Nat.le_trans (below_size (bq0_ HB.out)) hn_))), hk_.2.1, hk_.2.2, Or.elim hk_.1 (fun hs_ => hs_.2) (fun hn_ => (Kd.fresh' (Kd.S_lt (mvS_ HO_4.out)) k_ hn_))⟩)) (below_size (bq0_ HB.out))); have n5_ := Aside0.mk (below_step (bq0_ HB.out) hb); clear HO_0; clear HO_4; clear HB; have HO_0 := n0_; have HO_4 := n1_; have HO325 := n2_; have HO328 := n3_; have HO331 := n4_; have HB := n5_; clear n0_ n1_ n2_ n3_ n4_ n5_; (try clear hb); (try clear ho0); (try clear ho1); (try clear ho2)) | ((with_reducible refine gate_dst (N := 5) rfl ?_); refine box_event ?hg (N := 5) ?hd (cs := #[.slice none 0 0, .slice none 0 0]) (t := 26) ?hr ?_; (case hd => rfl); (case hg => rfl); (case hr => first | (go_simp; done) | (go_simp; rfl)); intro gb333 hg w8 hbox hb; have n0_ := Aside0.mk (Kd.V_below (Kd.V_elderB (mvV_ HO_0.out) gb333 (Nat.le_of_eq hg.symm)) hb); have n1_ := Aside0.mk (Kd.S_below (Kd.S_elderB (mvS_ HO_4.out) gb333 (Nat.le_of_eq hg.symm)) hb); have n2_ := Aside0.mk (Kd.R_below (mvR_ HO325.out) hb); have n3_ := Aside0.mk (Kd.R_below (mvR_ HO328.out) hb); have n4_ := Aside0.mk (Kd.V_below (Kd.V_elderB (mvV_ HO331.out) gb333 (Nat.le_of_eq hg.symm)) hb); have n5_ := Aside0.mk (below_step (bq0_ HB.out) hb); have n6_ := Aside0.mk (hbox); have n7_ := Aside0.mk ((by rw [hg]; exact (below_size (bq0_ HB.out)) : w.heap.size ≤ gb333)); have n8_ := Aside0.mk ((by rw [hg]; exact (below_size (bq0_ HB.out)) : w.heap.size ≤ gb333)); clear HO_0; clear HO_4; clear HO325; clear HO328; clear HO331; clear HB; have HO_0 := n0_; have HO_4 := n1_; have HO325 := n2_; have HO328 := n3_; have HO331 := n4_; have HB := n5_; have BK333 := n6_; have GW333 := n7_; have GE333 := n8_; clear n0_ n1_ n2_ n3_ n4_ n5_ n6_ n7_ n8_; clear hb hbox hg; obtain ⟨Ao9, co9, eo9⟩ := Kd.R_slice HO325.out; subst eo9; have hcz10_0 : w8.cell? ⟨gb333, 0, none⟩ = some (.slice none 0 0) := (blk_cell BK333.out 0).trans rfl; have hcz10_1 : w8.cell? ⟨gb333, 1, none⟩ = some (.slice none 0 0) := (blk_cell BK333.out 1).trans rfl; have hfz10_0 := blk_frozen BK333.out 0; have hfz10_1 := blk_frozen BK333.out 1; obtain ⟨Ao11, co11, eo11⟩ := Kd.R_slice HO328.out; subst eo11) | ((with_reducible refine gate_store (t := 26) (p := 5) rfl ?_); refine store_event (t := 26) (p := 5) (v := ?vo_w12) (w1 := ((w8.setCell ⟨gb333, 0, none⟩ (.slice Ao9 t323.length co9)).setCell ⟨gb333, 1, none⟩ (.slice Ao11 t326.length co11))) ?hg ?ho ?hn ?hr ?_; (case ho => rfl); (case hg => rfl); (case hn => rfl); (case hr => first | (go_simp; done) | (go_simp; rfl)); intro w12 hw; have n0_ : Aside0 (Kd.V (Kd.int .u8) 5 w12 w.heap.size (fun k_ => (P0_ k_ ∨ w.heap.size ≤ k_) ∧ some k_ ≠ (u4 : Value).ownBlock ∧ some k_ ≠ (.slice Ao9 t323.length co9 : Value).ownBlock ∧ some k_ ≠ (.slice Ao11 t326.length co11 : Value).ownBlock ∧ k_ ≠ gb333) (.slice Ao6 x0_1.length co6) x0_1) := ⟨(by rw [hw]; exact (by (with_reducible repeat (first | apply Kd.V_alloc | apply Kd.V_drewN | apply Kd.V_drew)); exact Kd.V_mono (Kd.V_far (p := ⟨gb333, 1, none⟩) (Kd.V_far (p := ⟨gb333, 0, none⟩) (Kd.V_mono HO_0.out (fun k_ hk => (⟨hk, hk.2⟩ : _ ∧ k_ ≠ gb333))) (fun _ hk => hk.2) (.slice Ao9 t323.length co9)) (fun _ hk => hk.2) (.slice Ao11 t326.length co11)) (fun _ hk => ⟨hk.1.1.1.1.1, ⟨hk.1.1.1.1.2, ⟨hk.1.1.1.2, ⟨hk.1.1.2, hk.1.2⟩⟩⟩⟩)))⟩; have n1_ : Aside0 (Kd.S k26 26 w12 w.heap.size (fun k_ => (w.heap.size ≤ k_) ∧ some k_ ≠ (.slice Ao9 t323.length co9 : Value).ownBlock ∧ some k_ ≠ (.slice Ao11 t326.length co11 : Value).ownBlock ∧ k_ ≠ gb333) u4 x4_1) := ⟨(by rw [hw]; exact (by (with_reducible repeat (first | apply Kd.S_alloc | apply Kd.S_drewN | apply Kd.S_drew)); exact Kd.S_mono (Kd.S_far (p := ⟨gb333, 1, none⟩) (Kd.S_far (p := ⟨gb333, 0, none⟩) (Kd.S_mono HO_4.out (fun k_ hk => (⟨hk, hk.2⟩ : _ ∧ k_ ≠ gb333))) (fun _ hk => hk.2) (.slice Ao9 t323.length co9)) (fun _ hk => hk.2) (.slice Ao11 t326.length co11)) (fun _ hk => ⟨hk.1.1.1.1, ⟨hk.1.1.1.2, ⟨hk.1.1.2, hk.1.2⟩⟩⟩)))⟩; have n2_ : Aside0 (Kd.R (Kd.int .i64) 3 w12 w.heap.size (fun k_ => (w.heap.size ≤ k_) ∧ some k_ ≠ (.slice Ao11 t326.length co11 : Value).ownBlock) (.slice Ao9 t323.length co9) t323) := ⟨(by rw [hw]; exact (by (with_reducible repeat (first | apply Kd.R_alloc | apply Kd.R_drewN | apply Kd.R_drew)); exact Kd.R_mono (Kd.R_far (p := ⟨gb333, 1, none⟩) (Kd.R_far (p := ⟨gb333, 0, none⟩) (Kd.R_types HO325.out BK333.out (by decide)) (fun _ hk => hk.2) (.slice Ao9 t323.length co9)) (fun _ hk => hk.2) (.slice Ao11 t326.length co11)) (fun _ hk => ⟨hk.1.1, hk.1.2⟩)))⟩; have n3_ : Aside0 (Kd.R (Kd.int .i64) 3 w12 w.heap.size (fun k_ => (w.heap.size ≤ k_) ∧ some k_ ≠ (.slice Ao9 t323.length co9 : Value).ownBlock) (.slice Ao11 t326.length co11) t326) := ⟨(by rw [hw]; exact (by (with_reducible repeat (first | apply Kd.R_alloc | apply Kd.R_drewN | apply Kd.R_drew)); exact Kd.R_mono (Kd.R_far (p := ⟨gb333, 1, none⟩) (Kd.R_far (p := ⟨gb333, 0, none⟩) (Kd.R_types HO328.out BK333.out (by decide)) (fun _ hk => hk.2) (.slice Ao9 t323.length co9)) (fun _ hk => hk.2) (.slice Ao11 t326.length co11)) (fun _ hk => ⟨hk.1.1, hk.1.2⟩)))⟩; have n4_ : Aside0 (Kd.V (Kd.int .u8) 5 w12 w.heap.size (fun k_ => (P0_ k_ ∨ w.heap.size ≤ k_) ∧ some k_ ≠ (u4 : Value).ownBlock ∧ some k_ ≠ (.slice Ao9 t323.length co9 : Value).ownBlock ∧ some k_ ≠ (.slice Ao11 t326.length co11 : Value).ownBlock ∧ k_ ≠ gb333) v330 t329) := ⟨(by rw [hw]; exact (by (with_reducible repeat (first | apply Kd.V_alloc | apply Kd.V_drewN | apply Kd.V_drew)); exact Kd.V_mono (Kd.V_far (p := ⟨gb333, 1, none⟩) (Kd.V_far (p := ⟨gb333, 0, none⟩) (Kd.V_mono HO331.out (fun k_ hk => (⟨hk, hk.2⟩ : _ ∧ k_ ≠ gb333))) (fun _ hk => hk.2) (.slice Ao9 t323.length co9)) (fun _ hk => hk.2) (.slice Ao11 t326.length co11)) (fun _ hk => ⟨hk.1.1.1, ⟨hk.1.1.2.2.2, ⟨hk.1.1.2.1, ⟨hk.1.1.2.2.1, hk.1.2⟩⟩⟩⟩)))⟩; have n5_ : Aside0 (w12.heap[gb333]? = some (.cells #[.slice Ao9 t323.length co9, .slice Ao11 t326.length co11] 26 (0, 0))) := ⟨(by rw [hw]; exact (by (with_reducible repeat (first | refine blk_drewN ?_ _ | refine blk_drew ?_ | refine blk_alloc ?_ _)); refine blk_put (cs := #[.slice Ao9 t323.length co9, .slice none 0 0]) ?_ 1 _ rfl; (with_reducible repeat (first | refine blk_drewN ?_ _ | refine blk_drew ?_ | refine blk_alloc ?_ _)); refine blk_put (cs := #[.slice none 0 0, .slice none 0 0]) ?_ 0 _ rfl; (with_reducible repeat (first | refine blk_drewN ?_ _ | refine blk_drew ?_ | refine blk_alloc ?_ _)); exact BK333.out))⟩; have n6_ : Aside0 (Below w.heap.size w w12) := ⟨(by rw [hw]; exact (bq1_ HB.out GE333.out))⟩; clear hw; clear HO_0; clear HO_4; clear HO325; clear HO328; clear HO331; clear BK333; clear HB; have HO_0 := n0_; have HO_4 := n1_; have HO325 := n2_; have HO328 := n3_; have HO331 := n4_; have BK333 := n5_; have HB := n6_; clear n0_ n1_ n2_ n3_ n4_ n5_ n6_; have hcz13_0 : w12.cell? ⟨gb333, 0, none⟩ = some (.slice Ao9 t323.length co9) := (blk_cell BK333.out 0).trans rfl; have hcz13_1 : w12.cell? ⟨gb333, 1, none⟩ = some (.slice Ao11 t326.length co11) := (blk_cell BK333.out 1).trans rfl; have hfz13_0 := blk_frozen BK333.out 0; have hfz13_1 := blk_frozen BK333.out 1) | ((with_reducible refine gate_builtin (b := .append) (xs := #[.tmp 20, .tmp 22]) rfl ?_); at_builtin; refine Kd.S_append k26 (w0 := w) w.heap.size rfl (.tmp 20) (.tmp 22) 23 26 (.agg #[(.slice none 0 0), (.slice none 0 0)]) 48 rfl Try.underlying23 info26 rfl (by decide) (by omega) u4 x4_1 (⟨t323, t326⟩ : S26) [.slice Ao9 t323.length co9, .slice Ao11 t326.length co11] (fun k_ => (w.heap.size ≤ k_) ∧ k_ ≠ gb333) (fun k_ => some k_ = (.slice Ao9 t323.length co9 : Value).ownBlock ∨ some k_ = (.slice Ao11 t326.length co11 : Value).ownBlock) rfl rfl ?aP (fun k_ hk_ => hk_.elim (fun h_ => ((Kd.R_mono (ok' := fun k_ => ((fun k_ => (w.heap.size ≤ k_) ∧ k_ ≠ gb333)) k_ ∧ some k_ ≠ (u4 : Value).ownBlock) (Kd.R_types (Kd.R_apart' (HO325.out) (Kd.S_typed HO_4.out) (by decide)) BK333.out (by decide)) (fun k_ hk => ⟨⟨hk.1.1.1, hk.2⟩, hk.1.2⟩))).1 k_ h_.symm) (fun h_ => ((Kd.R_mono (ok' := fun k_ => ((fun k_ => (w.heap.size ≤ k_) ∧ k_ ≠ gb333)) k_ ∧ some k_ ≠ (u4 : Value).ownBlock) (Kd.R_types (Kd.R_apart' (HO328.out) (Kd.S_typed HO_4.out) (by decide)) BK333.out (by decide)) (fun k_ hk => ⟨⟨hk.1.1.1, hk.2⟩, hk.1.2⟩))).1 k_ h_.symm)) ?aF ?aO ?aB ?aS ?aL ?_; (case aP => exact k26_mkM _ _ _ (⟨t323, t326⟩ : S26) (Kd.R_mono (Kd.R_tight rfl (Kd.R_mono (ok' := fun k_ => ((fun k_ => (w.heap.size ≤ k_) ∧ k_ ≠ gb333)) k_ ∧ some k_ ≠ (u4 : Value).ownBlock) (Kd.R_types (Kd.R_apart' (HO325.out) (Kd.S_typed HO_4.out) (by decide)) BK333.out (by decide)) (fun k_ hk => ⟨⟨hk.1.1.1, hk.2⟩, hk.1.2⟩))) (fun _ h_ => Or.inl h_)) (Kd.R_mono (Kd.R_tight rfl (Kd.R_mono (ok' := fun k_ => ((fun k_ => (w.heap.size ≤ k_) ∧ k_ ≠ gb333)) k_ ∧ some k_ ≠ (u4 : Value).ownBlock) (Kd.R_types (Kd.R_apart' (HO328.out) (Kd.S_typed HO_4.out) (by decide)) BK333.out (by decide)) (fun k_ hk => ⟨⟨hk.1.1.1, hk.2⟩, hk.1.2⟩))) (fun _ h_ => Or.inr (h_)))); (case aB => exact (bq1_ HB.out GE333.out)); (case aF => exact (fun k_ hk => ⟨(Nat.le_trans (below_size (bq1_ HB.out GE333.out)) hk), Kd.freshB (g := gb333) (o := .cells #[.slice Ao9 t323.length co9, .slice Ao11 t326.length co11] 26 (0, 0)) (mvK_ BK333.out) k_ hk⟩)); (case aO => exact (by (with_reducible repeat (first | apply Kd.S_alloc | apply Kd.S_drewN | apply Kd.S_drew)); exact Kd.S_mono HO_4.out (fun k_ hk => ⟨⟨hk.1, hk.2.2.2⟩, fun e_ => e_.elim (fun h_ => hk.2.1 h_) (fun h_ => hk.2.2.1 h_)⟩))); (case aS => exact (below_size (bq1_ HB.out GE333.out))); (case aL => have := LMc5.out; omega); intro v335 w14 ho hb hg hat; rw [← Ny334.out] at ho; have n0_ := Aside0.mk (Kd.V_afterv (ok := (fun k_ => (P0_ k_ ∨ w.heap.size ≤ k_) ∧ some k_ ≠ (.slice Ao9 t323.length co9 : Value).ownBlock ∧ some k_ ≠ (.slice Ao11 t326.length co11 : Value).ownBlock ∧ k_ ≠ gb333)) (by (with_reducible repeat (first | apply Kd.V_alloc | apply Kd.V_drewN | apply Kd.V_drew)); exact Kd.V_mono HO_0.out (fun _ hk => ⟨⟨hk.1, ⟨hk.2.2.1, ⟨hk.2.2.2.1, hk.2.2.2.2⟩⟩⟩, hk.2.1⟩)) hg hat); have n1_ := Aside0.mk (Kd.V_afterv (ok := (fun k_ => (P0_ k_ ∨ w.heap.size ≤ k_) ∧ some k_ ≠ (.slice Ao9 t323.length co9 : Value).ownBlock ∧ some k_ ≠ (.slice Ao11 t326.length co11 : Value).ownBlock ∧ k_ ≠ gb333)) (by (with_reducible repeat (first | apply Kd.V_alloc | apply Kd.V_drewN | apply Kd.V_drew)); exact Kd.V_mono HO331.out (fun _ hk => ⟨⟨hk.1, ⟨hk.2.2.1, ⟨hk.2.2.2.1, hk.2.2.2.2⟩⟩⟩, hk.2.1⟩)) hg hat); have n2_ := Aside0.mk (blk_grown (g := gb333) (o := .cells #[.slice Ao9 t323.length co9, .slice Ao11 t326.length co11] 26 (0, 0)) (mvK_ BK333.out) hg (Kd.S_away HO_4.out (fun _ hk => hk.2.2.2))); have n3_ := Aside0.mk (hb); have n4_ := Aside0.mk (ho); clear HO_0; clear HO331; clear BK333; clear HB; clear HO_4; clear HO325; clear HO328; have HO_0 := n0_; have HO331 := n1_; have BK333 := n2_; have HB := n3_; have HO336 := n4_; clear n0_ n1_ n2_ n3_ n4_; clear ho hb hg hat))
            go_roundg k1
            case measure => have := HK1.out; omega
            case rel => exact ⟨(t329), (y334), H', ⟨by have := HK1.out; omega⟩, ⟨by (with_reducible repeat (first | apply Kd.V_alloc | apply Kd.V_drewN | apply Kd.V_drew)); exact Kd.V_mono HO331.out (fun _ hk => ⟨hk.1.1, hk.2⟩)⟩, ⟨by (with_reducible repeat (first | apply Kd.S_alloc | apply Kd.S_drewN | apply Kd.S_drew)); exact Kd.S_mono HO336.out (fun _ hk => hk.1)⟩, ⟨by repeat (first | (with_reducible first | exact HB.out | apply below_alloc | apply pw_below_drewN | apply below_drew1 | refine below_set ?_ GE333.out) | exact HB.out)⟩⟩
          · rw [if_neg c5] at H
            exact absurd H (by simp)
        · rw [if_neg c4] at H
          have c4b0 : (t332 == 0) = false := beq_eq_false_iff_ne.mpr c4
          have c4b1 : (t332 != 0) = true := bne_iff_ne.mpr c4
          simp only [Option.some.injEq, Prod.mk.injEq] at H
          obtain ⟨rfl, rfl⟩ := H
          obtain ⟨Ao15, co15, eo15⟩ := Kd.V_slice HO_0.out
          subst eo15
          go_wp2_with (first | ((with_reducible refine gate_callee (f := 16) rfl ?_); refine goesL_ (some 13) rfl rfl Try.func16 (by kernel_rfl) rfl #[.slice Ao15 x0_1.length co15] rfl (by (try simp only [List.map_toArray, List.map_cons, List.map_nil]); first | done | rfl | (simp only [List.length_drop, List.length_take]; rfl)) ?_; (with_reducible refine (fullerref09_Take.calls k1 (fun k_ => ((P0_ k_ ∨ w.heap.size ≤ k_) ∧ some k_ ≠ (u4 : Value).ownBlock)) _ _ x0_1 t323 t326 t329 t332 _ ?side1 A3.out).mono ?_); (case side1 => first | exact HO_0.out | exact Kd.V_mono HO_0.out (fun _ h_ => by simpa only [and_assoc, and_comm, and_left_comm] using h_)); rintro e w16 ⟨v324, v327, v330, rfl, ho0, ho1, ho2, hb⟩; refine ⟨_, rfl, ?_⟩; have n0_ := Aside0.mk (Kd.V_mono (Kd.V_told (Kd.V_told (Kd.V_old (mvV_ HO_0.out) hb) (Kd.R_base ho0)) (Kd.R_base ho1)) (fun _ h_ => h_.1)); have n1_ := Aside0.mk (Kd.S_mono (Kd.S_told (Kd.S_told (Kd.S_old (mvS_ HO_4.out) hb) (Kd.R_base ho0)) (Kd.R_base ho1)) (fun _ h_ => h_.1)); have n2_ := Aside0.mk (Kd.R_lower (Kd.R_newM (M := fun k_ => (w.heap.size ≤ k_)) (Kd.R_mono (ok' := fun k_ => some k_ ≠ (v327 : Value).ownBlock) ho0 (fun _ hk_ => hk_.2)) (below_size (bq0_ HB.out)) (fun k_ h_ => h_)) (below_size (bq0_ HB.out))); have n3_ := Aside0.mk (Kd.R_lower (Kd.R_newM (M := fun k_ => (w.heap.size ≤ k_)) (Kd.R_mono (ok' := fun k_ => some k_ ≠ (v324 : Value).ownBlock) ho1 (fun _ hk_ => hk_.2)) (below_size (bq0_ HB.out)) (fun k_ h_ => h_)) (below_size (bq0_ HB.out))); have n4_ := Aside0.mk (Kd.V_lower (Kd.V_mono (ok' := fun k_ => (P0_ k_ ∨ w.heap.size ≤ k_) ∧ some k_ ≠ (v324 : Value).ownBlock ∧ some k_ ≠ (v327 : Value).ownBlock ∧ some k_ ≠ (u4 : Value).ownBlock) ho2 (fun k_ hk_ => ⟨Or.elim hk_.1 (fun hs_ => hs_.1) (fun hn_ => (.inr (Nat.le_trans (below_size (bq0_ HB.out)) hn_))), hk_.2.1, hk_.2.2, Or.elim hk_.1 (fun hs_ => hs_.2) (fun hn_ => (Kd.fresh' (Kd.S_lt (mvS_ HO_4.out)) k_ hn_))⟩)) (below_size (bq0_ HB.out))); have n5_ := Aside0.mk (below_step (bq0_ HB.out) hb); clear HO_0; clear HO_4; clear HB; have HO_0 := n0_; have HO_4 := n1_; have HO325 := n2_; have HO328 := n3_; have HO331 := n4_; have HB := n5_; clear n0_ n1_ n2_ n3_ n4_ n5_; (try clear hb); (try clear ho0); (try clear ho1); (try clear ho2)) | ((with_reducible refine gate_dst (N := 5) rfl ?_); refine box_event ?hg (N := 5) ?hd (cs := #[.slice none 0 0, .slice none 0 0]) (t := 26) ?hr ?_; (case hd => rfl); (case hg => rfl); (case hr => first | (go_simp; done) | (go_simp; rfl)); intro gb333 hg w17 hbox hb; have n0_ := Aside0.mk (Kd.V_below (Kd.V_elderB (mvV_ HO_0.out) gb333 (Nat.le_of_eq hg.symm)) hb); have n1_ := Aside0.mk (Kd.S_below (Kd.S_elderB (mvS_ HO_4.out) gb333 (Nat.le_of_eq hg.symm)) hb); have n2_ := Aside0.mk (Kd.R_below (mvR_ HO325.out) hb); have n3_ := Aside0.mk (Kd.R_below (mvR_ HO328.out) hb); have n4_ := Aside0.mk (Kd.V_below (Kd.V_elderB (mvV_ HO331.out) gb333 (Nat.le_of_eq hg.symm)) hb); have n5_ := Aside0.mk (below_step (bq0_ HB.out) hb); have n6_ := Aside0.mk (hbox); have n7_ := Aside0.mk ((by rw [hg]; exact (below_size (bq0_ HB.out)) : w.heap.size ≤ gb333)); have n8_ := Aside0.mk ((by rw [hg]; exact (below_size (bq0_ HB.out)) : w.heap.size ≤ gb333)); clear HO_0; clear HO_4; clear HO325; clear HO328; clear HO331; clear HB; have HO_0 := n0_; have HO_4 := n1_; have HO325 := n2_; have HO328 := n3_; have HO331 := n4_; have HB := n5_; have BK333 := n6_; have GW333 := n7_; have GE333 := n8_; clear n0_ n1_ n2_ n3_ n4_ n5_ n6_ n7_ n8_; clear hb hbox hg; obtain ⟨Ao18, co18, eo18⟩ := Kd.R_slice HO325.out; subst eo18; have hcz19_0 : w17.cell? ⟨gb333, 0, none⟩ = some (.slice none 0 0) := (blk_cell BK333.out 0).trans rfl; have hcz19_1 : w17.cell? ⟨gb333, 1, none⟩ = some (.slice none 0 0) := (blk_cell BK333.out 1).trans rfl; have hfz19_0 := blk_frozen BK333.out 0; have hfz19_1 := blk_frozen BK333.out 1; obtain ⟨Ao20, co20, eo20⟩ := Kd.R_slice HO328.out; subst eo20))
          go_ret2
          exact ⟨_, by first | rfl | (simp [errW_none, errW_some] <;> rfl) | (simp [*, errW_none, errW_some] <;> rfl), by first | exact Kd.S_nil _ _ _ _ _ | exact Kd.N_nil _ _ _ _ _ | exact Kd.V_nil _ _ _ _ _ | exact Kd.Q_nil _ _ _ _ _ | exact Kd.R_nil _ _ _ _ _, by repeat (first | (with_reducible first | exact HB.out | apply below_alloc | apply pw_below_drewN | apply below_drew1 | refine below_set ?_ GE333.out) | exact HB.out)⟩
      · rw [if_neg c2] at H
        have c2b0 : decide (0 < (x0_1.length : Int)) = false := decide_eq_false c2
        have c2b1 : decide (0 < x0_1.length) = false := decide_eq_false (by omega)
        clear c2
        simp only [Option.some.injEq, Prod.mk.injEq] at H
        obtain ⟨rfl, rfl⟩ := H
        obtain ⟨Ao21, co21, eo21⟩ := Kd.V_slice HO_0.out
        subst eo21
        go_wp2
        go_ret2
        exact ⟨_, by first | rfl | (simp [errW_none, errW_some] <;> rfl) | (simp [*, errW_none, errW_some] <;> rfl), by (with_reducible repeat (first | apply Kd.S_alloc | apply Kd.S_drewN | apply Kd.S_drew)); exact HO_4.out, by repeat (first | (with_reducible first | exact HB.out | apply below_alloc | apply pw_below_drewN | apply below_drew1) | exact HB.out)⟩

def L20_0 : Array Bool := #[false, false, false, false, false, false, false, false, false, false]
def L20_1 : Array Bool := #[true, false, false, false, false, false, false, false, false, false]
def L20_2 : Array Bool := #[true, true, false, false, false, false, false, false, false, false]
def L20_3 : Array Bool := #[true, true, true, false, false, false, false, false, false, false]
def L20_4 : Array Bool := #[true, true, true, false, true, false, false, false, false, false]
def L20_5 : Array Bool := #[true, true, true, false, true, true, false, false, false, false]
def L20_6 : Array Bool := #[true, true, true, false, true, true, true, false, false, false]
def L20_7 : Array Bool := #[true, true, true, true, true, true, true, false, false, false]
def L20_8 : Array Bool := #[true, true, true, true, true, true, true, true, false, false]
def L20_9 : Array Bool := #[true, true, true, true, true, true, true, true, true, false]
def L20_10 : Array Bool := #[true, true, true, true, true, true, true, true, true, true]
/-! ### fullerref09_Same: function 20 -/
def fullerref09_Same.l0 : Nat → List (S26) → List (S26) → Int → Option (Bool)
  | 0, _, _, _ => none
  | k + 1, x0, x1, x5 => if x5 < (x0.length : Int) then (if 0 ≤ x5 then (if x5 < (x1.length : Int) then ((fullerref03_Same.f k ((rd_T26 x0 x5).f0) ((rd_T26 x0 x5).f1) ((rd_T26 x1 x5).f0) ((rd_T26 x1 x5).f1)).bind fun t339 => (if t339 = true then (fullerref09_Same.l0 k x0 x1 (wrap64 (x5 + 1))) else (some false))) else (none)) else (none)) else (some true)
def fullerref09_Same.f (k : Nat) (l0 : List (S26)) (l1 : List (S26)) : Option (Bool) := if (l0.length : Int) = (l1.length : Int) then (fullerref09_Same.l0 k l0 l1 0) else (some false)
theorem fullerref09_Same.mono_l : ∀ k, (∀ y0 y1 y2, LeO (fullerref09_Same.l0 k y0 y1 y2) (fullerref09_Same.l0 (k + 1) y0 y1 y2))
  | 0 => fun _ _ _ r h => by simp [fullerref09_Same.l0] at h
  | k + 1 => by
    have ih0 := fullerref09_Same.mono_l k
    · intro y0 y1 y2
      unfold fullerref09_Same.l0
      repeat' first
      | (with_reducible exact ih0 _ _ _)
      | (with_reducible exact fullerref03_Same.mono _ _ _ _ _)
      | (with_reducible exact LeO.refl _)
      | (with_reducible exact LeO.none _)
      | (with_reducible refine LeO.ite ?_ ?_)
      | (with_reducible refine LeO.bind ?_ (fun _ => ?_))
      | exact ih0 _ _ _
      | exact fullerref03_Same.mono _ _ _ _ _
      | exact LeO.none _
      | refine LeO.ite ?_ ?_
      | refine LeO.bind ?_ (fun _ => ?_)
theorem fullerref09_Same.mono : ∀ a0 a1 k, LeO (fullerref09_Same.f k a0 a1) (fullerref09_Same.f (k + 1) a0 a1) := by
  intro a0 a1 k
  have ih0 := fullerref09_Same.mono_l k
  unfold fullerref09_Same.f
  repeat' first
      | (with_reducible exact ih0 _ _ _)
      | (with_reducible exact fullerref03_Same.mono _ _ _ _ _)
      | (with_reducible exact LeO.refl _)
      | (with_reducible exact LeO.none _)
      | (with_reducible refine LeO.ite ?_ ?_)
      | (with_reducible refine LeO.bind ?_ (fun _ => ?_))
      | exact ih0 _ _ _
      | exact fullerref03_Same.mono _ _ _ _ _
      | exact LeO.none _
      | refine LeO.ite ?_ ?_
      | refine LeO.bind ?_ (fun _ => ?_)
def fullerref09_Same.T6 : Bool × List (List Nat × List Nat) := (true, [([], []), ([], []), ([0, 1], [0, 1]), ([2], [2]), ([], []), ([], []), ([4, 5], [4, 5]), ([6], [6]), ([3, 7], [3, 7]), ([8, 8, 0, 1, 2, 3, 4, 5, 6, 7, 8], [8])])
def fullerref09_Same.B6 : List Nat := [0, 0, 3, 7, 0, 0, 48, 112, 255, 511]
theorem fullerref09_Same.tab6 : rtab .any (opsOf Try.f20 6) = fullerref09_Same.T6 := by kernel_rfl
theorem fullerref09_Same.bits6 : waitsOk fullerref09_Same.T6.2 fullerref09_Same.B6 = true := by kernel_rfl
set_option maxHeartbeats 8000000 in
set_option maxRecDepth 100000 in
theorem fullerref09_Same.calls (k : Nat) (A0 : Option Addr) (c0 : Nat) (l0 : List (S26)) (A1 : Option Addr) (c1 : Nat) (l1 : List (S26)) (r : Bool) (w : World) (hr0 : Kd.C k26 w A0 l0.length l0) (hc0 : l0.length ≤ c0) (hr1 : Kd.C k26 w A1 l1.length l1) (hc1 : l1.length ≤ c1) (h : fullerref09_Same.f k l0 l1 = some r) :
    Calls Try.prog 20 #[.slice A0 l0.length c0, .slice A1 l1.length c1] w fun e w' => e = .returned (.bool r) ∧ Below w.heap.size w w' := by
  have hu26 := Try.underlying26
  have HR0 := Aside0.mk hr0
  have HC0 := Aside0.mk hc0
  clear hr0 hc0
  have HR1 := Aside0.mk hr1
  have HC1 := Aside0.mk hc1
  clear hr1 hc1
  have HB := Aside0.mk (Below.refl w.heap.size w)
  have H : (if (l0.length : Int) = (l1.length : Int) then (fullerref09_Same.l0 k l0 l1 0) else (some false)) = some r := h
  clear h
  by_cases c3 : (l0.length : Int) = (l1.length : Int)
  · rw [if_pos c3] at H
    have c3b0 : ((l0.length : Int) == (l1.length : Int)) = true := beq_iff_eq.mpr c3
    have c3b1 : ((l0.length : Int) != (l1.length : Int)) = false := bne_eq_false_iff_eq.mpr c3
    have c3b2 : (l0.length == l1.length) = true := by first | simpa using c3 | (simp at c3 ⊢; omega)
    clear c3
    have H' := Aside0.mk H
    clear H
    go_enter Try.func20, Try.ntmps20
    go_wp2
    go_loopg [5] k (fun kq v5 w' => ∃ (x5_1 : Int), v5 = .int .i64 x5_1 ∧ Aside0 (fullerref09_Same.l0 kq l0 l1 x5_1 = some r) ∧ Aside0 (kq ≤ k) ∧ Aside0 (Below w.heap.size w w'))
    case atStart => exact ⟨(0), (by first | rfl | (simp; done) | (simp [*]; done)), H', ⟨Nat.le_refl _⟩, ⟨by repeat (first | (with_reducible first | exact HB.out | apply below_alloc | apply pw_below_drewN | apply below_drew1) | exact HB.out)⟩⟩
    case round =>
      clear H'
      try clear c1
      try clear c2
      try clear p2
      try clear c3
      try clear c3b0
      try clear c3b1
      try clear c3b2
      obtain ⟨x5_1, rfl, HA, HK1, HB⟩ := hrel
      cases gk with
      | zero => exact absurd HA.out (by simp [fullerref09_Same.l0])
      | succ k1 =>
        have H := HA.out
        clear HA
        simp only [fullerref09_Same.l0] at H
        by_cases c4 : x5_1 < (l0.length : Int)
        · rw [if_pos c4] at H
          have c4b0 : decide (x5_1 < (l0.length : Int)) = true := decide_eq_true c4
          clear c4
          by_cases c5 : 0 ≤ x5_1
          · rw [if_pos c5] at H
            have c5b0 : decide (0 ≤ x5_1) = true := decide_eq_true c5
            clear c5
            by_cases c6 : x5_1 < (l1.length : Int)
            · rw [if_pos c6] at H
              have c6b0 : decide (x5_1 < (l1.length : Int)) = true := decide_eq_true c6
              clear c6
              replace H := Option.bind_eq_some_iff.mp H
              obtain ⟨t339, A70, H⟩ := H
              replace H : (if t339 = true then (fullerref09_Same.l0 k1 l0 l1 (wrap64 (x5_1 + 1))) else (some false)) = some r := H
              have A7 := Aside0.mk A70
              clear A70
              by_cases c8 : t339 = true
              · subst c8
                have H1 : (fullerref09_Same.l0 k1 l0 l1 (wrap64 (x5_1 + 1))) = some r := by rw [if_pos rfl] at H; exact H
                clear H
                have H := H1
                clear H1
                have H' := Aside0.mk H
                clear H
                try go_wp2
                have n0_ := Aside0.mk (below_drew1 HB.out)
                clear HB
                have HB := n0_
                clear n0_
                have p337 : 0 ≤ (x5_1 : Int) := od_
                have q337 : x5_1 < (l0.length : Int) := od_
                obtain ⟨ad337, A337_0, c337_0, A337_1, c337_1, e337, hx337_0, hx337_1, hl337_0, hi337_0, hl337_1, hi337_1⟩ := at_T26 HR0.out x5_1 p337 q337
                have hw337_1 := hx337_1
                have hw337_0 := hx337_0
                cases e337
                replace hx337_0 := (HB.out.cell (World.block_lt_of_cell? w _ hx337_0)).trans hx337_0
                replace hx337_1 := (HB.out.cell (World.block_lt_of_cell? w _ hx337_1)).trans hx337_1
                have HR337_0 := Aside0.mk hi337_0
                have HC337_0 := Aside0.mk hl337_0
                clear hi337_0 hl337_0
                have HR337_1 := Aside0.mk hi337_1
                have HC337_1 := Aside0.mk hl337_1
                clear hi337_1 hl337_1
                replace p337 := eq_true p337
                replace q337 := eq_true q337
                have p338 : 0 ≤ (x5_1 : Int) := od_
                have q338 : x5_1 < (l1.length : Int) := od_
                obtain ⟨ad338, A338_0, c338_0, A338_1, c338_1, e338, hx338_0, hx338_1, hl338_0, hi338_0, hl338_1, hi338_1⟩ := at_T26 HR1.out x5_1 p338 q338
                have hw338_1 := hx338_1
                have hw338_0 := hx338_0
                cases e338
                replace hx338_0 := (HB.out.cell (World.block_lt_of_cell? w _ hx338_0)).trans hx338_0
                replace hx338_1 := (HB.out.cell (World.block_lt_of_cell? w _ hx338_1)).trans hx338_1
                have HR338_0 := Aside0.mk hi338_0
                have HC338_0 := Aside0.mk hl338_0
                clear hi338_0 hl338_0
                have HR338_1 := Aside0.mk hi338_1
                have HC338_1 := Aside0.mk hl338_1
                clear hi338_1 hl338_1
                replace p338 := eq_true p338
                replace q338 := eq_true q338
                refine start_ (n := 10) (S := fun w' => w'.cell? (ad337.add ((x5_1).toNat * 2)) = some (.slice A337_0 ((rd_T26 l0 x5_1).f0).length c337_0) ∧ w'.cell? ⟨(ad337.add ((x5_1).toNat * 2)).block, (ad337.add ((x5_1).toNat * 2)).off + 1, none⟩ = some (.slice A337_1 ((rd_T26 l0 x5_1).f1).length c337_1) ∧ w'.cell? (ad338.add ((x5_1).toNat * 2)) = some (.slice A338_0 ((rd_T26 l1 x5_1).f0).length c338_0) ∧ w'.cell? ⟨(ad338.add ((x5_1).toNat * 2)).block, (ad338.add ((x5_1).toNat * 2)).off + 1, none⟩ = some (.slice A338_1 ((rd_T26 l1 x5_1).f1).length c338_1)) (ds := []) L20_0 (by kernel_rfl) rfl rfl ⟨((HB.out.cell (World.block_lt_of_cell? w _ hw337_0)).trans hw337_0), ((HB.out.cell (World.block_lt_of_cell? w _ hw337_1)).trans hw337_1), ((HB.out.cell (World.block_lt_of_cell? w _ hw338_0)).trans hw338_0), ((HB.out.cell (World.block_lt_of_cell? w _ hw338_1)).trans hw338_1)⟩ (fun hHeld => ?_); refine with_tabW fullerref09_Same.tab6 fullerref09_Same.bits6 (fun HT_ HW_ => ?_)
                generalize wr.drew = w9 at HB HR337_0 HR337_1 HR338_0 HR338_1 hx337_0 hx337_1 hx338_0 hx338_1 hHeld ⊢
                refine pure_ (i := 0) (N := some 18) (v := ?_) (a' := ?_) L20_1 rfl rfl (any_of HT_.out (by kernel_rfl)) (fun _ _ _ h => h) (Or.inl ⟨by rfl, ?_⟩) ?_ ?_
                rotate_left
                · intro w'
                  go_simp
                  with_reducible rfl
                rotate_left
                · simp only [Act.put, List.setIfInBounds_toArray, List.set_cons_zero, List.set_cons_succ, i64_w, i32_w]
                  rfl
                refine pure_ (i := 1) (N := some 19) (v := ?_) (a' := ?_) L20_2 rfl rfl (any_of HT_.out (by kernel_rfl)) (fun _ _ _ h => h) (Or.inl ⟨by rfl, ?_⟩) ?_ ?_
                rotate_left
                · intro w'
                  go_simp
                  with_reducible rfl
                rotate_left
                · simp only [Act.put, List.setIfInBounds_toArray, List.set_cons_zero, List.set_cons_succ, i64_w, i32_w]
                  rfl
                refine pure_ (i := 2) (N := some 20) (v := ?_) (a' := ?_) L20_3 rfl rfl (any_of HT_.out (by kernel_rfl)) (fun _ _ _ h => h) (Or.inl ⟨by rfl, ?_⟩) ?_ ?_
                rotate_left
                · intro w'
                  go_simp
                  with_reducible rfl
                rotate_left
                · simp only [Act.put, List.setIfInBounds_toArray, List.set_cons_zero, List.set_cons_succ, i64_w, i32_w]
                  rfl
                refine pure_ (i := 4) (N := some 22) (v := ?_) (a' := ?_) L20_4 rfl rfl (any_of HT_.out (by kernel_rfl)) (fun _ _ _ h => h) (Or.inl ⟨by rfl, ?_⟩) ?_ ?_
                rotate_left
                · intro w'
                  go_simp
                  with_reducible rfl
                rotate_left
                · simp only [Act.put, List.setIfInBounds_toArray, List.set_cons_zero, List.set_cons_succ, i64_w, i32_w]
                  rfl
                refine pure_ (i := 5) (N := some 23) (v := ?_) (a' := ?_) L20_5 rfl rfl (any_of HT_.out (by kernel_rfl)) (fun _ _ _ h => h) (Or.inl ⟨by rfl, ?_⟩) ?_ ?_
                rotate_left
                · intro w'
                  go_simp
                  with_reducible rfl
                rotate_left
                · simp only [Act.put, List.setIfInBounds_toArray, List.set_cons_zero, List.set_cons_succ, i64_w, i32_w]
                  rfl
                refine pure_ (i := 6) (N := some 24) (v := ?_) (a' := ?_) L20_6 rfl rfl (any_of HT_.out (by kernel_rfl)) (fun _ _ _ h => h) (Or.inl ⟨by rfl, ?_⟩) ?_ ?_
                rotate_left
                · intro w'
                  go_simp
                  with_reducible rfl
                rotate_left
                · simp only [Act.put, List.setIfInBounds_toArray, List.set_cons_zero, List.set_cons_succ, i64_w, i32_w]
                  rfl
                refine take_ (i := 3) (N := some 21) (v := ?_) (a' := ?_) L20_7 rfl rfl (take_ofW HT_.out HW_.out (by kernel_rfl)) (fun _ _ _ h => h) (Or.inl ⟨by rfl, ?_⟩) hHeld ?_ ?_
                rotate_left
                · rintro w' ⟨s0, s1, s2, s3⟩
                  go_simp
                  with_reducible rfl
                rotate_left
                · simp only [Act.put, List.setIfInBounds_toArray, List.set_cons_zero, List.set_cons_succ, i64_w, i32_w]
                  rfl
                refine take_ (i := 7) (N := some 25) (v := ?_) (a' := ?_) L20_8 rfl rfl (take_ofW HT_.out HW_.out (by kernel_rfl)) (fun _ _ _ h => h) (Or.inl ⟨by rfl, ?_⟩) hHeld ?_ ?_
                rotate_left
                · rintro w' ⟨s0, s1, s2, s3⟩
                  go_simp
                  with_reducible rfl
                rotate_left
                · simp only [Act.put, List.setIfInBounds_toArray, List.set_cons_zero, List.set_cons_succ, i64_w, i32_w]
                  rfl
                refine one_ (i := 8) (N := some 26) L20_9 rfl rfl (one_of HT_.out (by kernel_rfl)) (by decide) (fun K hK => ?_)
                refine goes_ Try.func19 (by kernel_rfl) rfl #[.agg #[.slice A337_0 ((rd_T26 l0 x5_1).f0).length c337_0, .slice A337_1 ((rd_T26 l0 x5_1).f1).length c337_1], .agg #[.slice A338_0 ((rd_T26 l1 x5_1).f0).length c338_0, .slice A338_1 ((rd_T26 l1 x5_1).f1).length c338_1]] (by rfl) rfl rfl (by (try simp only [List.map_toArray, List.map_cons, List.map_nil]); first | done | rfl | (simp only [List.length_drop, List.length_take]; rfl)) ?_
                with_reducible refine (fullerref03_Same.calls k1 _ _ ((rd_T26 l0 x5_1).f0) _ _ ((rd_T26 l0 x5_1).f1) _ _ ((rd_T26 l1 x5_1).f0) _ _ ((rd_T26 l1 x5_1).f1) true _ ?side1 ?side2 ?side3 ?side4 ?side5 ?side6 ?side7 ?side8 A7.out).mono ?_
                (case side1 => exact mvC_ ((Kd.C_below HR337_0.out HB.out)))
                (case side2 => exact HC337_0.out)
                (case side3 => exact mvC_ ((Kd.C_below HR337_1.out HB.out)))
                (case side4 => exact HC337_1.out)
                (case side5 => exact mvC_ ((Kd.C_below HR338_0.out HB.out)))
                (case side6 => exact HC338_0.out)
                (case side7 => exact mvC_ ((Kd.C_below HR338_1.out HB.out)))
                (case side8 => exact HC338_1.out)
                rintro e w10 ⟨rfl, hb⟩
                refine ⟨_, rfl, ?_⟩
                have n0_ := Aside0.mk (below_step (bq0_ HB.out) hb)
                clear HB
                have HB := n0_
                clear n0_
                (try clear hb)
                (try clear hb2)
                (try clear hk)
                (try clear hi)
                refine hK.out _ _ ⟨((HB.out.cell (World.block_lt_of_cell? w _ hw337_0)).trans hw337_0), ((HB.out.cell (World.block_lt_of_cell? w _ hw337_1)).trans hw337_1), ((HB.out.cell (World.block_lt_of_cell? w _ hw338_0)).trans hw338_0), ((HB.out.cell (World.block_lt_of_cell? w _ hw338_1)).trans hw338_1)⟩ (fun hHeld => ?_)
                clear hK K
                refine norm_ (a' := ?_) ?_ ?_
                rotate_left
                · show Act.put _ (some 26) _ = _
                  simp only [Act.put, List.setIfInBounds_toArray, List.set_cons_zero, List.set_cons_succ, i64_w, i32_w]
                  rfl
                refine pure_ (i := 9) (N := some 6) (v := ?_) (a' := ?_) L20_10 rfl rfl (any_of HT_.out (by kernel_rfl)) (fun _ _ _ h => h) (Or.inl ⟨by rfl, ?_⟩) ?_ ?_
                rotate_left
                · intro w'
                  go_simp
                  with_reducible rfl
                rotate_left
                · simp only [Act.put, List.setIfInBounds_toArray, List.set_cons_zero, List.set_cons_succ, i64_w, i32_w]
                  rfl
                refine done_ (done_of HT_.out (by kernel_rfl)) ?_
                try go_wp2
                go_roundg k1
                case measure => have := HK1.out; omega
                case rel => exact ⟨(wrap64 (x5_1 + 1)), (by first | rfl | (simp; done) | (simp [*]; done)), H', ⟨by have := HK1.out; omega⟩, ⟨by repeat (first | (with_reducible first | exact HB.out | apply below_alloc | apply pw_below_drewN | apply below_drew1) | exact HB.out)⟩⟩
              · replace c8 := Bool.eq_false_iff.mpr c8
                subst c8
                have H1 : (some false) = some r := by rw [if_neg (show ¬ (false = true) by decide)] at H; exact H
                clear H
                have H := H1
                clear H1
                obtain rfl := Option.some.inj H
                try go_wp2
                have n0_ := Aside0.mk (below_drew1 HB.out)
                clear HB
                have HB := n0_
                clear n0_
                have p337 : 0 ≤ (x5_1 : Int) := od_
                have q337 : x5_1 < (l0.length : Int) := od_
                obtain ⟨ad337, A337_0, c337_0, A337_1, c337_1, e337, hx337_0, hx337_1, hl337_0, hi337_0, hl337_1, hi337_1⟩ := at_T26 HR0.out x5_1 p337 q337
                have hw337_1 := hx337_1
                have hw337_0 := hx337_0
                cases e337
                replace hx337_0 := (HB.out.cell (World.block_lt_of_cell? w _ hx337_0)).trans hx337_0
                replace hx337_1 := (HB.out.cell (World.block_lt_of_cell? w _ hx337_1)).trans hx337_1
                have HR337_0 := Aside0.mk hi337_0
                have HC337_0 := Aside0.mk hl337_0
                clear hi337_0 hl337_0
                have HR337_1 := Aside0.mk hi337_1
                have HC337_1 := Aside0.mk hl337_1
                clear hi337_1 hl337_1
                replace p337 := eq_true p337
                replace q337 := eq_true q337
                have p338 : 0 ≤ (x5_1 : Int) := od_
                have q338 : x5_1 < (l1.length : Int) := od_
                obtain ⟨ad338, A338_0, c338_0, A338_1, c338_1, e338, hx338_0, hx338_1, hl338_0, hi338_0, hl338_1, hi338_1⟩ := at_T26 HR1.out x5_1 p338 q338
                have hw338_1 := hx338_1
                have hw338_0 := hx338_0
                cases e338
                replace hx338_0 := (HB.out.cell (World.block_lt_of_cell? w _ hx338_0)).trans hx338_0
                replace hx338_1 := (HB.out.cell (World.block_lt_of_cell? w _ hx338_1)).trans hx338_1
                have HR338_0 := Aside0.mk hi338_0
                have HC338_0 := Aside0.mk hl338_0
                clear hi338_0 hl338_0
                have HR338_1 := Aside0.mk hi338_1
                have HC338_1 := Aside0.mk hl338_1
                clear hi338_1 hl338_1
                replace p338 := eq_true p338
                replace q338 := eq_true q338
                refine start_ (n := 10) (S := fun w' => w'.cell? (ad337.add ((x5_1).toNat * 2)) = some (.slice A337_0 ((rd_T26 l0 x5_1).f0).length c337_0) ∧ w'.cell? ⟨(ad337.add ((x5_1).toNat * 2)).block, (ad337.add ((x5_1).toNat * 2)).off + 1, none⟩ = some (.slice A337_1 ((rd_T26 l0 x5_1).f1).length c337_1) ∧ w'.cell? (ad338.add ((x5_1).toNat * 2)) = some (.slice A338_0 ((rd_T26 l1 x5_1).f0).length c338_0) ∧ w'.cell? ⟨(ad338.add ((x5_1).toNat * 2)).block, (ad338.add ((x5_1).toNat * 2)).off + 1, none⟩ = some (.slice A338_1 ((rd_T26 l1 x5_1).f1).length c338_1)) (ds := []) L20_0 (by kernel_rfl) rfl rfl ⟨((HB.out.cell (World.block_lt_of_cell? w _ hw337_0)).trans hw337_0), ((HB.out.cell (World.block_lt_of_cell? w _ hw337_1)).trans hw337_1), ((HB.out.cell (World.block_lt_of_cell? w _ hw338_0)).trans hw338_0), ((HB.out.cell (World.block_lt_of_cell? w _ hw338_1)).trans hw338_1)⟩ (fun hHeld => ?_); refine with_tabW fullerref09_Same.tab6 fullerref09_Same.bits6 (fun HT_ HW_ => ?_)
                generalize wr.drew = w11 at HB HR337_0 HR337_1 HR338_0 HR338_1 hx337_0 hx337_1 hx338_0 hx338_1 hHeld ⊢
                refine pure_ (i := 0) (N := some 18) (v := ?_) (a' := ?_) L20_1 rfl rfl (any_of HT_.out (by kernel_rfl)) (fun _ _ _ h => h) (Or.inl ⟨by rfl, ?_⟩) ?_ ?_
                rotate_left
                · intro w'
                  go_simp
                  with_reducible rfl
                rotate_left
                · simp only [Act.put, List.setIfInBounds_toArray, List.set_cons_zero, List.set_cons_succ, i64_w, i32_w]
                  rfl
                refine pure_ (i := 1) (N := some 19) (v := ?_) (a' := ?_) L20_2 rfl rfl (any_of HT_.out (by kernel_rfl)) (fun _ _ _ h => h) (Or.inl ⟨by rfl, ?_⟩) ?_ ?_
                rotate_left
                · intro w'
                  go_simp
                  with_reducible rfl
                rotate_left
                · simp only [Act.put, List.setIfInBounds_toArray, List.set_cons_zero, List.set_cons_succ, i64_w, i32_w]
                  rfl
                refine pure_ (i := 2) (N := some 20) (v := ?_) (a' := ?_) L20_3 rfl rfl (any_of HT_.out (by kernel_rfl)) (fun _ _ _ h => h) (Or.inl ⟨by rfl, ?_⟩) ?_ ?_
                rotate_left
                · intro w'
                  go_simp
                  with_reducible rfl
                rotate_left
                · simp only [Act.put, List.setIfInBounds_toArray, List.set_cons_zero, List.set_cons_succ, i64_w, i32_w]
                  rfl
                refine pure_ (i := 4) (N := some 22) (v := ?_) (a' := ?_) L20_4 rfl rfl (any_of HT_.out (by kernel_rfl)) (fun _ _ _ h => h) (Or.inl ⟨by rfl, ?_⟩) ?_ ?_
                rotate_left
                · intro w'
                  go_simp
                  with_reducible rfl
                rotate_left
                · simp only [Act.put, List.setIfInBounds_toArray, List.set_cons_zero, List.set_cons_succ, i64_w, i32_w]
                  rfl
                refine pure_ (i := 5) (N := some 23) (v := ?_) (a' := ?_) L20_5 rfl rfl (any_of HT_.out (by kernel_rfl)) (fun _ _ _ h => h) (Or.inl ⟨by rfl, ?_⟩) ?_ ?_
                rotate_left
                · intro w'
                  go_simp
                  with_reducible rfl
                rotate_left
                · simp only [Act.put, List.setIfInBounds_toArray, List.set_cons_zero, List.set_cons_succ, i64_w, i32_w]
                  rfl
                refine pure_ (i := 6) (N := some 24) (v := ?_) (a' := ?_) L20_6 rfl rfl (any_of HT_.out (by kernel_rfl)) (fun _ _ _ h => h) (Or.inl ⟨by rfl, ?_⟩) ?_ ?_
                rotate_left
                · intro w'
                  go_simp
                  with_reducible rfl
                rotate_left
                · simp only [Act.put, List.setIfInBounds_toArray, List.set_cons_zero, List.set_cons_succ, i64_w, i32_w]
                  rfl
                refine take_ (i := 3) (N := some 21) (v := ?_) (a' := ?_) L20_7 rfl rfl (take_ofW HT_.out HW_.out (by kernel_rfl)) (fun _ _ _ h => h) (Or.inl ⟨by rfl, ?_⟩) hHeld ?_ ?_
                rotate_left
                · rintro w' ⟨s0, s1, s2, s3⟩
                  go_simp
                  with_reducible rfl
                rotate_left
                · simp only [Act.put, List.setIfInBounds_toArray, List.set_cons_zero, List.set_cons_succ, i64_w, i32_w]
                  rfl
                refine take_ (i := 7) (N := some 25) (v := ?_) (a' := ?_) L20_8 rfl rfl (take_ofW HT_.out HW_.out (by kernel_rfl)) (fun _ _ _ h => h) (Or.inl ⟨by rfl, ?_⟩) hHeld ?_ ?_
                rotate_left
                · rintro w' ⟨s0, s1, s2, s3⟩
                  go_simp
                  with_reducible rfl
                rotate_left
                · simp only [Act.put, List.setIfInBounds_toArray, List.set_cons_zero, List.set_cons_succ, i64_w, i32_w]
                  rfl
                refine one_ (i := 8) (N := some 26) L20_9 rfl rfl (one_of HT_.out (by kernel_rfl)) (by decide) (fun K hK => ?_)
                refine goes_ Try.func19 (by kernel_rfl) rfl #[.agg #[.slice A337_0 ((rd_T26 l0 x5_1).f0).length c337_0, .slice A337_1 ((rd_T26 l0 x5_1).f1).length c337_1], .agg #[.slice A338_0 ((rd_T26 l1 x5_1).f0).length c338_0, .slice A338_1 ((rd_T26 l1 x5_1).f1).length c338_1]] (by rfl) rfl rfl (by (try simp only [List.map_toArray, List.map_cons, List.map_nil]); first | done | rfl | (simp only [List.length_drop, List.length_take]; rfl)) ?_
                with_reducible refine (fullerref03_Same.calls k1 _ _ ((rd_T26 l0 x5_1).f0) _ _ ((rd_T26 l0 x5_1).f1) _ _ ((rd_T26 l1 x5_1).f0) _ _ ((rd_T26 l1 x5_1).f1) false _ ?side1 ?side2 ?side3 ?side4 ?side5 ?side6 ?side7 ?side8 A7.out).mono ?_
                (case side1 => exact mvC_ ((Kd.C_below HR337_0.out HB.out)))
                (case side2 => exact HC337_0.out)
                (case side3 => exact mvC_ ((Kd.C_below HR337_1.out HB.out)))
                (case side4 => exact HC337_1.out)
                (case side5 => exact mvC_ ((Kd.C_below HR338_0.out HB.out)))
                (case side6 => exact HC338_0.out)
                (case side7 => exact mvC_ ((Kd.C_below HR338_1.out HB.out)))
                (case side8 => exact HC338_1.out)
                rintro e w12 ⟨rfl, hb⟩
                refine ⟨_, rfl, ?_⟩
                have n0_ := Aside0.mk (below_step (bq0_ HB.out) hb)
                clear HB
                have HB := n0_
                clear n0_
                (try clear hb)
                (try clear hb2)
                (try clear hk)
                (try clear hi)
                refine hK.out _ _ ⟨((HB.out.cell (World.block_lt_of_cell? w _ hw337_0)).trans hw337_0), ((HB.out.cell (World.block_lt_of_cell? w _ hw337_1)).trans hw337_1), ((HB.out.cell (World.block_lt_of_cell? w _ hw338_0)).trans hw338_0), ((HB.out.cell (World.block_lt_of_cell? w _ hw338_1)).trans hw338_1)⟩ (fun hHeld => ?_)
                clear hK K
                refine norm_ (a' := ?_) ?_ ?_
                rotate_left
                · show Act.put _ (some 26) _ = _
                  simp only [Act.put, List.setIfInBounds_toArray, List.set_cons_zero, List.set_cons_succ, i64_w, i32_w]
                  rfl
                refine pure_ (i := 9) (N := some 6) (v := ?_) (a' := ?_) L20_10 rfl rfl (any_of HT_.out (by kernel_rfl)) (fun _ _ _ h => h) (Or.inl ⟨by rfl, ?_⟩) ?_ ?_
                rotate_left
                · intro w'
                  go_simp
                  with_reducible rfl
                rotate_left
                · simp only [Act.put, List.setIfInBounds_toArray, List.set_cons_zero, List.set_cons_succ, i64_w, i32_w]
                  rfl
                refine done_ (done_of HT_.out (by kernel_rfl)) ?_
                try go_wp2
                go_ret
                exact ⟨by first | rfl | (simp [errW_none, errW_some] <;> rfl) | (simp [*, errW_none, errW_some] <;> rfl), by repeat (first | (with_reducible first | exact HB.out | apply below_alloc | apply pw_below_drewN | apply below_drew1) | exact HB.out)⟩
            · rw [if_neg c6] at H
              exact absurd H (by simp)
          · rw [if_neg c5] at H
            exact absurd H (by simp)
        · rw [if_neg c4] at H
          have c4b0 : decide (x5_1 < (l0.length : Int)) = false := decide_eq_false c4
          clear c4
          obtain rfl := Option.some.inj H
          go_wp2
          go_ret
          exact ⟨by first | rfl | (simp [errW_none, errW_some] <;> rfl) | (simp [*, errW_none, errW_some] <;> rfl), by repeat (first | (with_reducible first | exact HB.out | apply below_alloc | apply pw_below_drewN | apply below_drew1) | exact HB.out)⟩
  · rw [if_neg c3] at H
    have c3b0 : ((l0.length : Int) == (l1.length : Int)) = false := beq_eq_false_iff_ne.mpr c3
    have c3b1 : ((l0.length : Int) != (l1.length : Int)) = true := bne_iff_ne.mpr c3
    have c3b2 : (l0.length == l1.length) = false := by first | simpa using c3 | (simp at c3 ⊢; omega)
    obtain rfl := Option.some.inj H
    go_enter Try.func20, Try.ntmps20
    go_wp2
    go_ret
    exact ⟨by first | rfl | (simp [errW_none, errW_some] <;> rfl) | (simp [*, errW_none, errW_some] <;> rfl), by repeat (first | (with_reducible first | exact HB.out | apply below_alloc | apply pw_below_drewN | apply below_drew1) | exact HB.out)⟩

end Go.Proofs.Ytfoffgbhfokccaa.A
