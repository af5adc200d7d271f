/- Lean functions that answer as the Go functions do, and the proofs that they do; no conditions. Written by this session's own driver: a scratch copy of the kit's print with the session's additions (wip/xprint). -/
import Derived.Test.YtfoffgbhfokccaaAx0
import Derived.Test.YtfoffgbhfokccaaAx2
import Derived.Test.YtfoffgbhfokccaaAx12
namespace Go.Proofs.Ytfoffgbhfokccaa.A
open Go.RowKit Go.Proofs.YtfoffgbhfokccaaW.PrintWords Go.Proofs.YtfoffgbhfokccaaW.PrintLast Go.Proofs.YtfoffgbhfokccaaW.PrintMore
attribute [local go_sem] max2_int min2_int max_two min_two max_three min_three max_four min_four   -- for this text's walks alone
set_option linter.unusedVariables false
set_option linter.unusedSimpArgs false

/-! ### image_Read: function 17 -/
def image_Read.l0 : Nat → List (S26) → Int → List Int → Option ((List (S26)) × Int)
  | 0, _, _, _ => none
  | k + 1, x2, x3, x4 => if (x4.length : Int) > 0 then ((image_Take.f k x4).bind fun bt153 => (if bt153.2.2.2 = 0 then (if x2.length < 2932031007402 then (image_Read.l0 k (x2 ++ [(⟨bt153.1, bt153.2.1⟩ : S26)]) bt153.2.2.2 bt153.2.2.1) else (none)) else (some (([] : List (S26)), bt153.2.2.2)))) else (some (x2, x3))
def image_Read.f (k : Nat) (l0 : List Int) : Option ((List (S26)) × Int) := (slices_Clone_byte_byte.f l0).bind fun t149 => (image_Read.l0 k ([] : List (S26)) 0 t149)
theorem image_Read.mono_l : ∀ k, (∀ y0 y1 y2, LeO (image_Read.l0 k y0 y1 y2) (image_Read.l0 (k + 1) y0 y1 y2))
  | 0 => fun _ _ _ r h => by simp [image_Read.l0] at h
  | k + 1 => by
    have ih0 := image_Read.mono_l k
    · intro y0 y1 y2
      unfold image_Read.l0
      repeat' first
      | (with_reducible exact ih0 _ _ _)
      | (with_reducible exact image_Take.mono _ _)
      | (with_reducible exact LeO.refl _)
      | (with_reducible exact LeO.none _)
      | (with_reducible refine LeO.ite ?_ ?_)
      | (with_reducible refine LeO.bind ?_ (fun _ => ?_))
      | exact ih0 _ _ _
      | exact image_Take.mono _ _
      | exact LeO.none _
      | refine LeO.ite ?_ ?_
      | refine LeO.bind ?_ (fun _ => ?_)
theorem image_Read.mono : ∀ a0 k, LeO (image_Read.f k a0) (image_Read.f (k + 1) a0) := by
  intro a0 k
  have ih0 := image_Read.mono_l k
  unfold image_Read.f
  repeat' first
      | (with_reducible exact ih0 _ _ _)
      | (with_reducible exact image_Take.mono _ _)
      | (with_reducible exact LeO.refl _)
      | (with_reducible exact LeO.none _)
      | (with_reducible refine LeO.ite ?_ ?_)
      | (with_reducible refine LeO.bind ?_ (fun _ => ?_))
      | exact ih0 _ _ _
      | exact image_Take.mono _ _
      | exact LeO.none _
      | refine LeO.ite ?_ ?_
      | refine LeO.bind ?_ (fun _ => ?_)
set_option maxHeartbeats 8000000 in
set_option maxRecDepth 100000 in
theorem image_Read.calls (k : Nat) (A0 : Option Addr) (c0 : Nat) (l0 : List Int) (r1 : List (S26)) (r2 : Int) (w : World) (hr0 : Kd.C (Kd.int .u8) w A0 l0.length l0) (hc0 : l0.length ≤ c0) (h : image_Read.f k l0 = some (r1, r2)) :
    Calls Try.prog 17 #[.slice A0 l0.length c0] w fun e w' => ∃ v0_ : Value, e = .returned (.tuple #[v0_, .int .i64 r2]) ∧ Kd.S k26 26 w' w.heap.size (fun _ => True) v0_ r1 ∧ Below w.heap.size w w' := by
  have hu26 := Try.underlying26
  have HR0 := Aside0.mk hr0
  have HC0 := Aside0.mk hc0
  clear hr0 hc0
  have HB := Aside0.mk (Below.refl w.heap.size w)
  have H : ((slices_Clone_byte_byte.f l0).bind fun t149 => (image_Read.l0 k ([] : List (S26)) 0 t149)) = some (r1, r2) := h
  clear h
  replace H := Option.bind_eq_some_iff.mp H
  obtain ⟨t149, A20, H⟩ := H
  replace H : (image_Read.l0 k ([] : List (S26)) 0 t149) = some (r1, r2) := H
  have A2 := Aside0.mk A20
  clear A20
  have H' := Aside0.mk H
  clear H
  go_enter Try.func17, Try.ntmps17
  (go_wp2_with (first | ((with_reducible refine gate_callee (f := 35) rfl ?_); refine goesL_ (some 7) rfl rfl Try.func35 (by kernel_rfl) rfl #[.slice A0 l0.length c0] rfl (by (try simp only [List.map_toArray, List.map_cons, List.map_nil]); first | done | rfl | (simp only [List.length_drop, List.length_take]; rfl)) ?_; (with_reducible refine (slices_Clone_byte_byte.calls _ _ l0 t149 _ ?side1 ?side2 A2.out).mono ?_); (case side1 => exact mvC_ (HR0.out)); (case side2 => exact HC0.out); rintro e w3 ⟨v150, rfl, ho0, hb⟩; refine ⟨_, rfl, ?_⟩; have n0_ := Aside0.mk (Kd.R_lower ho0 (below_size (bq0_ HB.out))); have n1_ := Aside0.mk (below_step (bq0_ HB.out) hb); clear HB; have HO151 := n0_; have HB := n1_; clear n0_ n1_; (try clear hb); (try clear ho0))); repeat (go_step3; go_wp2_with (first | ((with_reducible refine gate_callee (f := 35) rfl ?_); refine goesL_ (some 7) rfl rfl Try.func35 (by kernel_rfl) rfl #[.slice A0 l0.length c0] rfl (by (try simp only [List.map_toArray, List.map_cons, List.map_nil]); first | done | rfl | (simp only [List.length_drop, List.length_take]; rfl)) ?_; (with_reducible refine (slices_Clone_byte_byte.calls _ _ l0 t149 _ ?side1 ?side2 A2.out).mono ?_); (case side1 => exact mvC_ (HR0.out)); (case side2 => exact HC0.out); rintro e w3 ⟨v150, rfl, ho0, hb⟩; refine ⟨_, rfl, ?_⟩; have n0_ := Aside0.mk (Kd.R_lower ho0 (below_size (bq0_ HB.out))); have n1_ := Aside0.mk (below_step (bq0_ HB.out) hb); clear HB; have HO151 := n0_; have HB := n1_; clear n0_ n1_; (try clear hb); (try clear ho0)))))
  go_loopg [2, 3, 4] k (fun kq v2 v3 v4 w' => ∃ (x2_1 : List (S26)) (x3_1 : Int) (x4_1 : List Int), v3 = .int .i64 x3_1 ∧ Aside0 (image_Read.l0 kq x2_1 x3_1 x4_1 = some (r1, r2)) ∧ Aside0 (kq ≤ k) ∧ Aside0 (Kd.S k26 26 w' w.heap.size (fun _ => True) v2 x2_1) ∧ Aside0 (Kd.R (Kd.int .u8) 5 w' w.heap.size (fun _ => True) v4 x4_1) ∧ Aside0 (Below w.heap.size w w'))
  case atStart => exact ⟨(([] : List (S26))), (0), (t149), (by first | rfl | (simp; done) | (simp [*]; done)), H', ⟨Nat.le_refl _⟩, ⟨by first | exact Kd.S_nil _ _ _ _ _ | exact Kd.N_nil _ _ _ _ _ | exact Kd.V_nil _ _ _ _ _ | exact Kd.Q_nil _ _ _ _ _ | exact Kd.R_nil _ _ _ _ _⟩, ⟨by (with_reducible repeat (first | apply Kd.R_alloc | apply Kd.R_drewN | apply Kd.R_drew)); exact HO151.out⟩, ⟨by repeat (first | (with_reducible first | exact HB.out | apply below_alloc | apply pw_below_drewN | apply below_drew1) | exact HB.out)⟩⟩
  case round =>
    clear H'
    try clear c1
    try clear p2
    try clear c3
    obtain ⟨x2_1, x3_1, x4_1, rfl, HA, HK1, HO_2, HO_4, HB⟩ := hrel
    cases gk with
    | zero => exact absurd HA.out (by simp [image_Read.l0])
    | succ k1 =>
      have H := HA.out
      clear HA
      simp only [image_Read.l0] at H
      by_cases c4 : (x4_1.length : Int) > 0
      · rw [if_pos c4] at H
        have c4b0 : decide (0 < (x4_1.length : Int)) = true := decide_eq_true c4
        have c4b1 : decide (0 < x4_1.length) = true := decide_eq_true (by omega)
        clear c4
        replace H := Option.bind_eq_some_iff.mp H
        obtain ⟨⟨t153, t156, t159, t162⟩, A50, H⟩ := H
        replace H : (if t162 = 0 then (if x2_1.length < 2932031007402 then (image_Read.l0 k1 (x2_1 ++ [(⟨t153, t156⟩ : S26)]) t162 t159) else (none)) else (some (([] : List (S26)), t162))) = some (r1, r2) := H
        have A5 := Aside0.mk A50
        clear A50
        by_cases c6 : t162 = 0
        · rw [if_pos c6] at H
          have c6b0 : (t162 == 0) = true := beq_iff_eq.mpr c6
          have c6b1 : (t162 != 0) = false := bne_eq_false_iff_eq.mpr c6
          clear c6
          by_cases c7 : x2_1.length < 2932031007402
          · rw [if_pos c7] at H
            have LMc7 := Aside0.mk c7
            clear c7
            obtain ⟨y163, hy163⟩ : ∃ y_ : List (S26), y_ = (x2_1 ++ [(⟨t153, t156⟩ : S26)]) := ⟨_, rfl⟩
            replace H : (image_Read.l0 k1 y163 t162 t159) = some (r1, r2) := by first | (rw [hy163]; with_reducible exact H) | (have H2_ := (Option.bind_some _ _).symm.trans H; rw [hy163]; with_reducible exact H2_) | (have H2_ := (Option.bind_some _ _).symm.trans H; with_reducible exact H2_) | with_reducible exact H | (rw [hy163]; exact H) | exact H
            have Ny163 := Aside0.mk hy163
            clear hy163
            have H' := Aside0.mk H
            clear H
            obtain ⟨Ao8, co8, eo8⟩ := Kd.R_slice HO_4.out
            subst eo8
            go_wp2_with (first | ((with_reducible refine gate_dst (N := 5) rfl ?_); refine box_event ?hg (N := 5) ?hd (cs := #[.slice none 0 0, .slice none 0 0]) (t := 26) ?hr ?_; (case hd => rfl); (case hg => rfl); (case hr => first | (go_simp; done) | (go_simp; rfl)); intro gb152 hg w9 hbox hb; have n0_ := Aside0.mk (Kd.S_below (Kd.S_elderB (mvS_ HO_2.out) gb152 (Nat.le_of_eq hg.symm)) hb); have n1_ := Aside0.mk (Kd.R_below (mvR_ HO_4.out) hb); have n2_ := Aside0.mk (below_step (bq0_ HB.out) hb); have n3_ := Aside0.mk (hbox); have n4_ := Aside0.mk ((by rw [hg]; exact (below_size (bq0_ HB.out)) : w.heap.size ≤ gb152)); have n5_ := Aside0.mk ((by rw [hg]; exact (below_size (bq0_ HB.out)) : w.heap.size ≤ gb152)); clear HO_2; clear HO_4; clear HB; have HO_2 := n0_; have HO_4 := n1_; have HB := n2_; have BK152 := n3_; have GW152 := n4_; have GE152 := n5_; clear n0_ n1_ n2_ n3_ n4_ n5_; clear hb hbox hg) | ((with_reducible refine gate_callee (f := 15) rfl ?_); refine goesL_ (some 13) rfl rfl Try.func15 (by kernel_rfl) rfl #[.slice Ao8 x4_1.length co8] rfl (by (try simp only [List.map_toArray, List.map_cons, List.map_nil]); first | done | rfl | (simp only [List.length_drop, List.length_take]; rfl)) ?_; (with_reducible refine (image_Take.calls k1 _ _ x4_1 t153 t156 t159 t162 _ ?side1 ?side2 A5.out).mono ?_); (case side1 => exact mvC_ ((Kd.R_reads' HO_4.out).2.2)); (case side2 => exact (Kd.R_reads' HO_4.out).2.1); rintro e w10 ⟨v154, v157, v160, rfl, ho0, ho1, ho2, hb⟩; refine ⟨_, rfl, ?_⟩; have n0_ := Aside0.mk (Kd.S_mono (Kd.S_told (Kd.S_told (Kd.S_old (mvS_ HO_2.out) hb) (Kd.R_base ho0)) (Kd.R_base ho1)) (fun _ h_ => h_.1)); have n1_ := Aside0.mk (Kd.R_elder' (mvR_ HO_4.out) (Kd.R_base ho2) hb); have n2_ := Aside0.mk (Kd.R_lower ho0 (below_size (bq1_ HB.out GE152.out))); have n3_ := Aside0.mk (Kd.R_lower ho1 (below_size (bq1_ HB.out GE152.out))); have n4_ := Aside0.mk (Kd.R_lower (Kd.R_new' ho2 (Kd.R_lt (mvR_ HO_4.out))) (below_size (bq1_ HB.out GE152.out))); have n5_ := Aside0.mk (blk_below (g := gb152) (o := .cells #[.slice none 0 0, .slice none 0 0] 26 (0, 0)) (mvK_ BK152.out) hb); have n6_ := Aside0.mk (below_step (bq1_ HB.out GE152.out) hb); clear HO_2; clear HO_4; clear BK152; clear HB; have HO_2 := n0_; have HO_4 := n1_; have HO155 := n2_; have HO158 := n3_; have HO161 := n4_; have BK152 := n5_; have HB := n6_; clear n0_ n1_ n2_ n3_ n4_ n5_ n6_; (try clear hb); (try clear ho0); (try clear ho1); (try clear ho2); obtain ⟨Ao11, co11, eo11⟩ := Kd.R_slice HO155.out; subst eo11; have hcz12_0 : w10.cell? ⟨gb152, 0, none⟩ = some (.slice none 0 0) := (blk_cell BK152.out 0).trans rfl; have hcz12_1 : w10.cell? ⟨gb152, 1, none⟩ = some (.slice none 0 0) := (blk_cell BK152.out 1).trans rfl; have hfz12_0 := blk_frozen BK152.out 0; have hfz12_1 := blk_frozen BK152.out 1; obtain ⟨Ao13, co13, eo13⟩ := Kd.R_slice HO158.out; subst eo13) | ((with_reducible refine gate_store (t := 26) (p := 5) rfl ?_); refine store_event (t := 26) (p := 5) (v := ?vo_w14) (w1 := ((w10.setCell ⟨gb152, 0, none⟩ (.slice Ao11 t153.length co11)).setCell ⟨gb152, 1, none⟩ (.slice Ao13 t156.length co13))) ?hg ?ho ?hn ?hr ?_; (case ho => rfl); (case hg => rfl); (case hn => rfl); (case hr => first | (go_simp; done) | (go_simp; rfl)); intro w14 hw; have n0_ : Aside0 (Kd.S k26 26 w14 w.heap.size (fun k_ => some k_ ≠ (.slice Ao11 t153.length co11 : Value).ownBlock ∧ some k_ ≠ (.slice Ao13 t156.length co13 : Value).ownBlock ∧ k_ ≠ gb152) u2 x2_1) := ⟨(by rw [hw]; exact (by (with_reducible repeat (first | apply Kd.S_alloc | apply Kd.S_drewN | apply Kd.S_drew)); exact Kd.S_mono (Kd.S_far (p := ⟨gb152, 1, none⟩) (Kd.S_far (p := ⟨gb152, 0, none⟩) (Kd.S_mono HO_2.out (fun k_ hk => (⟨hk, hk.1.1.2⟩ : _ ∧ k_ ≠ gb152))) (fun _ hk => hk.2) (.slice Ao11 t153.length co11)) (fun _ hk => hk.2) (.slice Ao13 t156.length co13)) (fun _ hk => ⟨hk.1.1.2, ⟨hk.1.2, hk.1.1.1.2⟩⟩)))⟩; have n1_ : Aside0 (Kd.R (Kd.int .u8) 5 w14 w.heap.size (fun k_ => some k_ ≠ (v160 : Value).ownBlock) (.slice Ao8 x4_1.length co8) x4_1) := ⟨(by rw [hw]; exact (by (with_reducible repeat (first | apply Kd.R_alloc | apply Kd.R_drewN | apply Kd.R_drew)); exact Kd.R_mono (Kd.R_far (p := ⟨gb152, 1, none⟩) (Kd.R_far (p := ⟨gb152, 0, none⟩) (Kd.R_types HO_4.out BK152.out (by decide)) (fun _ hk => hk.2) (.slice Ao11 t153.length co11)) (fun _ hk => hk.2) (.slice Ao13 t156.length co13)) (fun _ hk => hk.1.2)))⟩; have n2_ : Aside0 (Kd.R (Kd.int .i64) 3 w14 w.heap.size (fun k_ => some k_ ≠ (.slice Ao13 t156.length co13 : Value).ownBlock) (.slice Ao11 t153.length co11) t153) := ⟨(by rw [hw]; exact (by (with_reducible repeat (first | apply Kd.R_alloc | apply Kd.R_drewN | apply Kd.R_drew)); exact Kd.R_mono (Kd.R_far (p := ⟨gb152, 1, none⟩) (Kd.R_far (p := ⟨gb152, 0, none⟩) (Kd.R_types HO155.out BK152.out (by decide)) (fun _ hk => hk.2) (.slice Ao11 t153.length co11)) (fun _ hk => hk.2) (.slice Ao13 t156.length co13)) (fun _ hk => hk.1)))⟩; have n3_ : Aside0 (Kd.R (Kd.int .i64) 3 w14 w.heap.size (fun k_ => some k_ ≠ (.slice Ao11 t153.length co11 : Value).ownBlock) (.slice Ao13 t156.length co13) t156) := ⟨(by rw [hw]; exact (by (with_reducible repeat (first | apply Kd.R_alloc | apply Kd.R_drewN | apply Kd.R_drew)); exact Kd.R_mono (Kd.R_far (p := ⟨gb152, 1, none⟩) (Kd.R_far (p := ⟨gb152, 0, none⟩) (Kd.R_types HO158.out BK152.out (by decide)) (fun _ hk => hk.2) (.slice Ao11 t153.length co11)) (fun _ hk => hk.2) (.slice Ao13 t156.length co13)) (fun _ hk => hk.1)))⟩; have n4_ : Aside0 (Kd.R (Kd.int .u8) 5 w14 w.heap.size (fun k_ => some k_ ≠ (.slice Ao8 x4_1.length co8 : Value).ownBlock) v160 t159) := ⟨(by rw [hw]; exact (by (with_reducible repeat (first | apply Kd.R_alloc | apply Kd.R_drewN | apply Kd.R_drew)); exact Kd.R_mono (Kd.R_far (p := ⟨gb152, 1, none⟩) (Kd.R_far (p := ⟨gb152, 0, none⟩) (Kd.R_types HO161.out BK152.out (by decide)) (fun _ hk => hk.2) (.slice Ao11 t153.length co11)) (fun _ hk => hk.2) (.slice Ao13 t156.length co13)) (fun _ hk => hk.1.2)))⟩; have n5_ : Aside0 (w14.heap[gb152]? = some (.cells #[.slice Ao11 t153.length co11, .slice Ao13 t156.length co13] 26 (0, 0))) := ⟨(by rw [hw]; exact (by (with_reducible repeat (first | refine blk_drewN ?_ _ | refine blk_drew ?_ | refine blk_alloc ?_ _)); refine blk_put (cs := #[.slice Ao11 t153.length co11, .slice none 0 0]) ?_ 1 _ rfl; (with_reducible repeat (first | refine blk_drewN ?_ _ | refine blk_drew ?_ | refine blk_alloc ?_ _)); refine blk_put (cs := #[.slice none 0 0, .slice none 0 0]) ?_ 0 _ rfl; (with_reducible repeat (first | refine blk_drewN ?_ _ | refine blk_drew ?_ | refine blk_alloc ?_ _)); exact BK152.out))⟩; have n6_ : Aside0 (Below w.heap.size w w14) := ⟨(by rw [hw]; exact (bq1_ HB.out GE152.out))⟩; clear hw; clear HO_2; clear HO_4; clear HO155; clear HO158; clear HO161; clear BK152; clear HB; have HO_2 := n0_; have HO_4 := n1_; have HO155 := n2_; have HO158 := n3_; have HO161 := n4_; have BK152 := n5_; have HB := n6_; clear n0_ n1_ n2_ n3_ n4_ n5_ n6_; have hcz15_0 : w14.cell? ⟨gb152, 0, none⟩ = some (.slice Ao11 t153.length co11) := (blk_cell BK152.out 0).trans rfl; have hcz15_1 : w14.cell? ⟨gb152, 1, none⟩ = some (.slice Ao13 t156.length co13) := (blk_cell BK152.out 1).trans rfl; have hfz15_0 := blk_frozen BK152.out 0; have hfz15_1 := blk_frozen BK152.out 1) | ((with_reducible refine gate_builtin (b := .append) (xs := #[.tmp 19, .tmp 21]) rfl ?_); at_builtin; refine Kd.S_append k26 (w0 := w) w.heap.size rfl (.tmp 19) (.tmp 21) 23 26 (.agg #[(.slice none 0 0), (.slice none 0 0)]) 48 rfl Try.underlying23 info26 rfl (by decide) (by omega) u2 x2_1 (⟨t153, t156⟩ : S26) [.slice Ao11 t153.length co11, .slice Ao13 t156.length co13] (fun k_ => k_ ≠ gb152) (fun k_ => some k_ = (.slice Ao11 t153.length co11 : Value).ownBlock ∨ some k_ = (.slice Ao13 t156.length co13 : Value).ownBlock) rfl rfl ?aP (fun k_ hk_ => hk_.elim (fun h_ => ((Kd.R_mono (ok' := fun k_ => ((fun k_ => k_ ≠ gb152)) k_ ∧ some k_ ≠ (u2 : Value).ownBlock) (Kd.R_types (Kd.R_apart' (HO155.out) (Kd.S_typed HO_2.out) (by decide)) BK152.out (by decide)) (fun k_ hk => ⟨hk.2, hk.1.2⟩))).1 k_ h_.symm) (fun h_ => ((Kd.R_mono (ok' := fun k_ => ((fun k_ => k_ ≠ gb152)) k_ ∧ some k_ ≠ (u2 : Value).ownBlock) (Kd.R_types (Kd.R_apart' (HO158.out) (Kd.S_typed HO_2.out) (by decide)) BK152.out (by decide)) (fun k_ hk => ⟨hk.2, hk.1.2⟩))).1 k_ h_.symm)) ?aF ?aO ?aB ?aS ?aL ?_; (case aP => exact k26_mkM _ _ _ (⟨t153, t156⟩ : S26) (Kd.R_mono (Kd.R_tight rfl (Kd.R_mono (ok' := fun k_ => ((fun k_ => k_ ≠ gb152)) k_ ∧ some k_ ≠ (u2 : Value).ownBlock) (Kd.R_types (Kd.R_apart' (HO155.out) (Kd.S_typed HO_2.out) (by decide)) BK152.out (by decide)) (fun k_ hk => ⟨hk.2, hk.1.2⟩))) (fun _ h_ => Or.inl h_)) (Kd.R_mono (Kd.R_tight rfl (Kd.R_mono (ok' := fun k_ => ((fun k_ => k_ ≠ gb152)) k_ ∧ some k_ ≠ (u2 : Value).ownBlock) (Kd.R_types (Kd.R_apart' (HO158.out) (Kd.S_typed HO_2.out) (by decide)) BK152.out (by decide)) (fun k_ hk => ⟨hk.2, hk.1.2⟩))) (fun _ h_ => Or.inr (h_)))); (case aB => exact (bq1_ HB.out GE152.out)); (case aF => exact (fun k_ hk => Kd.freshB (g := gb152) (o := .cells #[.slice Ao11 t153.length co11, .slice Ao13 t156.length co13] 26 (0, 0)) (mvK_ BK152.out) k_ hk)); (case aO => exact (by (with_reducible repeat (first | apply Kd.S_alloc | apply Kd.S_drewN | apply Kd.S_drew)); exact Kd.S_mono HO_2.out (fun k_ hk => ⟨hk.2.2, fun e_ => e_.elim (fun h_ => hk.1 h_) (fun h_ => hk.2.1 h_)⟩))); (case aS => exact (below_size (bq1_ HB.out GE152.out))); (case aL => have := LMc7.out; omega); intro v164 w16 ho hb hg hat; rw [← Ny163.out] at ho; have n0_ := Aside0.mk (Kd.R_over' (mvR_ HO_4.out) (Kd.S_typed (mvS_ HO_2.out)) (by decide) hg); have n1_ := Aside0.mk (blk_grown (g := gb152) (o := .cells #[.slice Ao11 t153.length co11, .slice Ao13 t156.length co13] 26 (0, 0)) (mvK_ BK152.out) hg (Kd.S_away HO_2.out (fun _ hk => hk.2.2))); have n2_ := Aside0.mk (Kd.R_over' (mvR_ HO161.out) (Kd.S_typed (mvS_ HO_2.out)) (by decide) hg); have n3_ := Aside0.mk (hb); have n4_ := Aside0.mk (ho); clear HO_4; clear BK152; clear HO161; clear HB; clear HO_2; clear HO155; clear HO158; have HO_4 := n0_; have BK152 := n1_; have HO161 := n2_; have HB := n3_; have HO165 := n4_; clear n0_ n1_ n2_ n3_ n4_; clear ho hb hg hat))
            go_roundg k1
            case measure => have := HK1.out; omega
            case rel => exact ⟨(y163), (t162), (t159), (by first | rfl | (simp; done) | (simp [*]; done)), H', ⟨by have := HK1.out; omega⟩, ⟨by (with_reducible repeat (first | apply Kd.S_alloc | apply Kd.S_drewN | apply Kd.S_drew)); exact Kd.S_mono HO165.out (fun _ hk => trivial)⟩, ⟨by (with_reducible repeat (first | apply Kd.R_alloc | apply Kd.R_drewN | apply Kd.R_drew)); exact Kd.R_mono HO161.out (fun _ hk => trivial)⟩, ⟨by repeat (first | (with_reducible first | exact HB.out | apply below_alloc | apply pw_below_drewN | apply below_drew1 | refine below_set ?_ GE152.out) | exact HB.out)⟩⟩
          · rw [if_neg c7] at H
            exact absurd H (by simp)
        · rw [if_neg c6] at H
          have c6b0 : (t162 == 0) = false := beq_eq_false_iff_ne.mpr c6
          have c6b1 : (t162 != 0) = true := bne_iff_ne.mpr c6
          simp only [Option.some.injEq, Prod.mk.injEq] at H
          obtain ⟨rfl, rfl⟩ := H
          obtain ⟨Ao17, co17, eo17⟩ := Kd.R_slice HO_4.out
          subst eo17
          go_wp2_with (first | ((with_reducible refine gate_dst (N := 5) rfl ?_); refine box_event ?hg (N := 5) ?hd (cs := #[.slice none 0 0, .slice none 0 0]) (t := 26) ?hr ?_; (case hd => rfl); (case hg => rfl); (case hr => first | (go_simp; done) | (go_simp; rfl)); intro gb152 hg w18 hbox hb; have n0_ := Aside0.mk (Kd.S_below (Kd.S_elderB (mvS_ HO_2.out) gb152 (Nat.le_of_eq hg.symm)) hb); have n1_ := Aside0.mk (Kd.R_below (mvR_ HO_4.out) hb); have n2_ := Aside0.mk (below_step (bq0_ HB.out) hb); have n3_ := Aside0.mk (hbox); have n4_ := Aside0.mk ((by rw [hg]; exact (below_size (bq0_ HB.out)) : w.heap.size ≤ gb152)); have n5_ := Aside0.mk ((by rw [hg]; exact (below_size (bq0_ HB.out)) : w.heap.size ≤ gb152)); clear HO_2; clear HO_4; clear HB; have HO_2 := n0_; have HO_4 := n1_; have HB := n2_; have BK152 := n3_; have GW152 := n4_; have GE152 := n5_; clear n0_ n1_ n2_ n3_ n4_ n5_; clear hb hbox hg) | ((with_reducible refine gate_callee (f := 15) rfl ?_); refine goesL_ (some 13) rfl rfl Try.func15 (by kernel_rfl) rfl #[.slice Ao17 x4_1.length co17] rfl (by (try simp only [List.map_toArray, List.map_cons, List.map_nil]); first | done | rfl | (simp only [List.length_drop, List.length_take]; rfl)) ?_; (with_reducible refine (image_Take.calls k1 _ _ x4_1 t153 t156 t159 t162 _ ?side1 ?side2 A5.out).mono ?_); (case side1 => exact mvC_ ((Kd.R_reads' HO_4.out).2.2)); (case side2 => exact (Kd.R_reads' HO_4.out).2.1); rintro e w19 ⟨v154, v157, v160, rfl, ho0, ho1, ho2, hb⟩; refine ⟨_, rfl, ?_⟩; have n0_ := Aside0.mk (Kd.S_mono (Kd.S_told (Kd.S_told (Kd.S_old (mvS_ HO_2.out) hb) (Kd.R_base ho0)) (Kd.R_base ho1)) (fun _ h_ => h_.1)); have n1_ := Aside0.mk (Kd.R_elder' (mvR_ HO_4.out) (Kd.R_base ho2) hb); have n2_ := Aside0.mk (Kd.R_lower ho0 (below_size (bq1_ HB.out GE152.out))); have n3_ := Aside0.mk (Kd.R_lower ho1 (below_size (bq1_ HB.out GE152.out))); have n4_ := Aside0.mk (Kd.R_lower (Kd.R_new' ho2 (Kd.R_lt (mvR_ HO_4.out))) (below_size (bq1_ HB.out GE152.out))); have n5_ := Aside0.mk (blk_below (g := gb152) (o := .cells #[.slice none 0 0, .slice none 0 0] 26 (0, 0)) (mvK_ BK152.out) hb); have n6_ := Aside0.mk (below_step (bq1_ HB.out GE152.out) hb); clear HO_2; clear HO_4; clear BK152; clear HB; have HO_2 := n0_; have HO_4 := n1_; have HO155 := n2_; have HO158 := n3_; have HO161 := n4_; have BK152 := n5_; have HB := n6_; clear n0_ n1_ n2_ n3_ n4_ n5_ n6_; (try clear hb); (try clear ho0); (try clear ho1); (try clear ho2); obtain ⟨Ao20, co20, eo20⟩ := Kd.R_slice HO155.out; subst eo20; have hcz21_0 : w19.cell? ⟨gb152, 0, none⟩ = some (.slice none 0 0) := (blk_cell BK152.out 0).trans rfl; have hcz21_1 : w19.cell? ⟨gb152, 1, none⟩ = some (.slice none 0 0) := (blk_cell BK152.out 1).trans rfl; have hfz21_0 := blk_frozen BK152.out 0; have hfz21_1 := blk_frozen BK152.out 1; obtain ⟨Ao22, co22, eo22⟩ := Kd.R_slice HO158.out; subst eo22))
          go_ret2
          exact ⟨_, by first | rfl | (simp [errW_none, errW_some] <;> rfl) | (simp [*, errW_none, errW_some] <;> rfl), by first | exact Kd.S_nil _ _ _ _ _ | exact Kd.N_nil _ _ _ _ _ | exact Kd.V_nil _ _ _ _ _ | exact Kd.Q_nil _ _ _ _ _ | exact Kd.R_nil _ _ _ _ _, by repeat (first | (with_reducible first | exact HB.out | apply below_alloc | apply pw_below_drewN | apply below_drew1 | refine below_set ?_ GE152.out) | exact HB.out)⟩
      · rw [if_neg c4] at H
        have c4b0 : decide (0 < (x4_1.length : Int)) = false := decide_eq_false c4
        have c4b1 : decide (0 < x4_1.length) = false := decide_eq_false (by omega)
        clear c4
        simp only [Option.some.injEq, Prod.mk.injEq] at H
        obtain ⟨rfl, rfl⟩ := H
        obtain ⟨Ao23, co23, eo23⟩ := Kd.R_slice HO_4.out
        subst eo23
        (go_wp2; repeat (go_step3; go_wp2))
        go_ret2
        exact ⟨_, by first | rfl | (simp [errW_none, errW_some] <;> rfl) | (simp [*, errW_none, errW_some] <;> rfl), by (with_reducible repeat (first | apply Kd.S_alloc | apply Kd.S_drewN | apply Kd.S_drew)); exact HO_2.out, by repeat (first | (with_reducible first | exact HB.out | apply below_alloc | apply pw_below_drewN | apply below_drew1) | exact HB.out)⟩

end Go.Proofs.Ytfoffgbhfokccaa.A
