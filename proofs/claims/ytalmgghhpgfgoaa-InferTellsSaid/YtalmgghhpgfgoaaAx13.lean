/- Lean functions that answer as the Go functions do, and the proofs that they do; no conditions. Written by this session's own driver: a scratch copy of the kit's print with the session's additions (wip/xprint). -/
import Derived.Test.YtalmgghhpgfgoaaAx0
import Derived.Test.YtalmgghhpgfgoaaAx10
import Derived.Test.YtalmgghhpgfgoaaAx12
namespace Go.Proofs.Ytalmgghhpgfgoaa.A
open Go.RowKit Go.Proofs.YtalmgghhpgfgoaaW.PrintWords Go.Proofs.YtalmgghhpgfgoaaW.PrintLast Go.Proofs.YtalmgghhpgfgoaaW.PrintMore
attribute [local go_sem] max2_int min2_int max_two min_two max_three min_three max_four min_four
set_option linter.unusedVariables false
set_option linter.unusedSimpArgs false
def fullerref11_alone.l0 : Nat → List Int → Int → Int → List Int → List Int → Int → List Int → Option (Bool)
 | 0, _, _, _, _, _, _, _ => none
 | k + 1, x4, x5, x311000, x311001, x311002, x315000, x315002 => (fullerref10_Arity.f k x311000).bind fun t315 => (if x5 < t315 then (if x4.length < 17592186044416 then (fullerref11_alone.l0 k (x4 ++ [0]) (wrap64 (x5 + 1)) x311000 x311001 x311002 x315000 x315002) else (none)) else ((fullerref10_Check.f k (([(⟨x315000, ([] : List Int), x315002⟩ : S25), (⟨x311000, x4, x311002⟩ : S25)] : List (S25)))).bind fun t322 => (some t322)))
def fullerref11_alone.f (k : Nat) (a0_0 : Int) (l0_1 : List Int) (l0_2 : List Int) : Option (Bool) := fullerref11_alone.l0 k ([] : List Int) 0 a0_0 l0_1 l0_2 3 (([0] : List Int))
set_option maxHeartbeats 8000000 in
set_option maxRecDepth 100000 in
theorem fullerref11_alone.calls (k : Nat) (a0_0 : Int) (A0_1 : Option Addr) (c0_1 : Nat) (l0_1 : List Int) (P0_2_ : Nat → Prop) (A0_2 : Option Addr) (c0_2 : Nat) (l0_2 : List Int) (r : Bool) (w : World) (hr0_1 : Kd.C (Kd.int .i64) w A0_1 l0_1.length l0_1) (hc0_1 : l0_1.length ≤ c0_1) (hs0_2 : Kd.V (Kd.int .i64) 3 w w.heap.size (fun k_ => P0_2_ k_) (.slice A0_2 l0_2.length c0_2) l0_2) (h : fullerref11_alone.f k a0_0 l0_1 l0_2 = some r) :
  Calls Try.prog 24 #[.agg #[.int .i64 a0_0, .slice A0_1 l0_1.length c0_1, .slice A0_2 l0_2.length c0_2]] w fun e w' => e = .returned (.bool r) ∧ Below w.heap.size w w' := by
 have hu25 := Try.underlying25
 have HR0_1 := Aside0.mk hr0_1
 have HC0_1 := Aside0.mk hc0_1
 clear hr0_1 hc0_1
 have HO0_2 := Aside0.mk (show Kd.V (Kd.int .i64) 3 w w.heap.size (fun k_ => (P0_2_ k_ ∨ w.heap.size ≤ k_)) (.slice A0_2 l0_2.length c0_2) l0_2 from Kd.V_mono hs0_2 (fun k_ hk => .inl hk))
 have HB := Aside0.mk (Below.refl w.heap.size w)
 have H : (fullerref11_alone.l0 k ([] : List Int) 0 a0_0 l0_1 l0_2 3 (([0] : List Int))) = some r := h
 clear h
 obtain ⟨y311, hy311⟩ : ∃ y_ : List Int, y_ = (([0] : List Int)) := ⟨_, rfl⟩
 replace H : (fullerref11_alone.l0 k ([] : List Int) 0 a0_0 l0_1 l0_2 3 y311) = some r := by first | (rw [hy311]; with_reducible exact H) | (have H2_ := (Option.bind_some _ _).symm.trans H; rw [hy311]; with_reducible exact H2_) | (have H2_ := (Option.bind_some _ _).symm.trans H; with_reducible exact H2_) | with_reducible exact H | (rw [hy311]; exact H) | exact H
 have Ny311 := Aside0.mk hy311
 clear hy311
 have H' := Aside0.mk H
 clear H
 go_enter Try.func24, Try.ntmps24
 go_wp2_with (first | ((with_reducible refine gate_dst (N := 1) rfl ?_); refine box_event ?hg (N := 1) ?hd (cs := #[.int .i64 a0_0, .slice A0_1 l0_1.length c0_1, .slice A0_2 l0_2.length c0_2]) (t := 25) ?hr ?_; (case hd => rfl); (case hg => rfl); (case hr => first | (go_simp; done) | (go_simp; rfl)); intro gb310 hg w2 hbox hb; have BK310 := Aside0.mk (hbox); have GW310 := Aside0.mk ((by rw [hg]; exact (below_size (bq0_ HB.out)) : w.heap.size ≤ gb310)); have GE310 := Aside0.mk ((by rw [hg]; exact (below_size (bq0_ HB.out)) : w.heap.size ≤ gb310)); replace HO0_2 := Aside0.mk (Kd.V_below (Kd.V_elderB (mvV_ HO0_2.out) gb310 (Nat.le_of_eq hg.symm)) hb); replace HB := Aside0.mk (below_step (bq0_ HB.out) hb); clear hb hbox hg) | ((with_reducible refine gate_dst (N := 6) rfl ?_); refine Kd.R_lit (Kd.int .i64) _ 3 ?hg (N := 6) ?hd (xs := ([0] : List Int)) (inner := [.int .i64 0]) (ok := fun _ => True) (okp := fun _ => True) ?hr ?hp (fun _ hk => hk) trivial (Below.refl _ _) (Nat.le_refl _) (by simp) ?_; (case hd => rfl); (case hg => rfl); (case hr => first | (go_simp; done) | (go_simp; rfl)); (case hp => exact (Reps.one (show Kd.M (Kd.int .i64) _ _ _ 0 [.int .i64 0] from rfl) (Reps.none _ _))); intro v312 w3 ho4 hb hg_ hnew_; clear hg_ hnew_; (first | rw [← Ny311.out] at ho4 | (simp only [Int.reduceToNat] at ho4; rw [← Ny311.out] at ho4)); have HO313 := Aside0.mk (Kd.R_lower (Kd.R_newM (M := fun k_ => (w.heap.size ≤ k_)) ho4 (below_size (bq1_ HB.out GE310.out)) (fun k_ h_ => h_)) (below_size (bq1_ HB.out GE310.out))); replace HO0_2 := Aside0.mk (Kd.V_elder' (mvV_ HO0_2.out) (Kd.R_base ho4) hb); replace BK310 := Aside0.mk (blk_below (g := gb310) (o := .cells #[.int .i64 a0_0, .slice A0_1 l0_1.length c0_1, .slice A0_2 l0_2.length c0_2] 25 (0, 0)) (mvK_ BK310.out) hb); replace HB := Aside0.mk (below_step (bq1_ HB.out GE310.out) hb); clear hb ho4; obtain ⟨Ao5, co5, eo5⟩ := Kd.R_slice HO313.out; subst eo5) | ((with_reducible refine gate_dst (N := 3) rfl ?_); refine box_event ?hg (N := 3) ?hd (cs := #[.int .i64 0, .slice none 0 0, .slice none 0 0]) (t := 25) ?hr ?_; (case hd => rfl); (case hg => rfl); (case hr => first | (go_simp; done) | (go_simp; rfl)); intro gb314 hg w6 hbox hb; have BK314 := Aside0.mk (hbox); have GW314 := Aside0.mk ((by rw [hg]; exact (below_size (bq1_ HB.out GE310.out)) : w.heap.size ≤ gb314)); have GE314 := Aside0.mk ((by rw [hg]; exact (below_size (bq1_ HB.out GE310.out)) : w.heap.size ≤ gb314)); have NB310_314 := Aside0.mk ((by rw [hg]; exact Nat.ne_of_lt (blk_lt (g := gb310) (o := .cells #[.int .i64 a0_0, .slice A0_1 l0_1.length c0_1, .slice A0_2 l0_2.length c0_2] 25 (0, 0)) (mvK_ BK310.out)) : gb310 ≠ gb314)); have NB314_310 := Aside0.mk ((by rw [hg]; exact Nat.ne_of_gt (blk_lt (g := gb310) (o := .cells #[.int .i64 a0_0, .slice A0_1 l0_1.length c0_1, .slice A0_2 l0_2.length c0_2] 25 (0, 0)) (mvK_ BK310.out)) : gb314 ≠ gb310)); replace HO0_2 := Aside0.mk (Kd.V_below (Kd.V_elderB (mvV_ HO0_2.out) gb314 (Nat.le_of_eq hg.symm)) hb); replace HO313 := Aside0.mk (Kd.R_below (mvR_ HO313.out) hb); replace BK310 := Aside0.mk (blk_below (g := gb310) (o := .cells #[.int .i64 a0_0, .slice A0_1 l0_1.length c0_1, .slice A0_2 l0_2.length c0_2] 25 (0, 0)) (mvK_ BK310.out) hb); replace HB := Aside0.mk (below_step (bq1_ HB.out GE310.out) hb); clear hb hbox hg; have hnb7 := NB314_310.out; have hnc7 := NB310_314.out; have hcz8_0 := hc_ BK314 0; have hcz8_1 := hc_ BK314 1; have hcz8_2 := hc_ BK314 2; have hfz8_0 := blk_frozen BK314.out 0; have hfz8_1 := blk_frozen BK314.out 1; have hfz8_2 := blk_frozen BK314.out 2))
 go_loopg [4, 5] k (fun kq v4 v5 w' => ∃ (x4_1 : List Int) (x5_1 : Int), v5 = .int .i64 x5_1 ∧ Aside0 (fullerref11_alone.l0 kq x4_1 x5_1 a0_0 l0_1 l0_2 3 y311 = some r) ∧ Aside0 (kq ≤ k) ∧ Aside0 (Kd.R (Kd.int .i64) 3 w' w.heap.size (fun k_ => (w.heap.size ≤ k_) ∧ some k_ ≠ ((.slice Ao5 y311.length co5) : Value).ownBlock) v4 x4_1) ∧ Aside0 (Kd.V (Kd.int .i64) 3 w' w.heap.size (fun k_ => (P0_2_ k_ ∨ w.heap.size ≤ k_) ∧ some k_ ≠ (v4 : Value).ownBlock ∧ some k_ ≠ ((.slice Ao5 y311.length co5) : Value).ownBlock ∧ k_ ≠ gb310 ∧ k_ ≠ gb314) (.slice A0_2 l0_2.length c0_2) l0_2) ∧ Aside0 (Kd.R (Kd.int .i64) 3 w' w.heap.size (fun k_ => (w.heap.size ≤ k_) ∧ some k_ ≠ (v4 : Value).ownBlock) (.slice Ao5 y311.length co5) y311) ∧ Aside0 (w'.heap[gb310]? = some (.cells #[.int .i64 a0_0, (.slice A0_1 l0_1.length c0_1), (.slice A0_2 l0_2.length c0_2)] 25 (0, 0))) ∧ Aside0 (w'.heap[gb314]? = some (.cells #[.int .i64 3, (.slice none 0 0), (.slice Ao5 y311.length co5)] 25 (0, 0))) ∧ Aside0 (Below w.heap.size w w'))
 case atStart => exact ⟨(([] : List Int)), (0), (by first | rfl | (simp; done) | (simp [*]; done)), H', ⟨Nat.le_refl _⟩, ⟨by first | exact Kd.R_nil _ _ _ _ _ | exact Kd.N_nil _ _ _ _ _ | exact Kd.V_nil _ _ _ _ _ | exact Kd.Q_nil _ _ _ _ _ | exact Kd.S_nil _ _ _ _ _⟩, ⟨by (with_reducible repeat (first | apply Kd.V_alloc | apply Kd.V_drewN | apply Kd.V_drew)); exact Kd.V_mono (Kd.V_far (p := ⟨gb314, 2, none⟩) (Kd.V_far (p := ⟨gb314, 1, none⟩) (Kd.V_far (p := ⟨gb314, 0, none⟩) (Kd.V_mono HO0_2.out (fun k_ hk => (⟨hk, hk.2⟩ : _ ∧ k_ ≠ gb314))) (fun _ hk => hk.2) (.int .i64 3)) (fun _ hk => hk.2) (.slice none 0 0)) (fun _ hk => hk.2) (.slice Ao5 y311.length co5)) (fun _ hk => ⟨hk.1.1.1.1, ⟨(by simp [Value.ownBlock]), ⟨hk.1.1.2, ⟨hk.1.1.1.2, hk.1.2⟩⟩⟩⟩)⟩, ⟨by (with_reducible repeat (first | apply Kd.R_alloc | apply Kd.R_drewN | apply Kd.R_drew)); exact Kd.R_mono (Kd.R_far (p := ⟨gb314, 2, none⟩) (Kd.R_far (p := ⟨gb314, 1, none⟩) (Kd.R_far (p := ⟨gb314, 0, none⟩) (Kd.R_types HO313.out BK314.out (by decide)) (fun _ hk => hk.2) (.int .i64 3)) (fun _ hk => hk.2) (.slice none 0 0)) (fun _ hk => hk.2) (.slice Ao5 y311.length co5)) (fun _ hk => ⟨hk.1.1, (by simp [Value.ownBlock])⟩)⟩, ⟨by (with_reducible repeat (first | refine blk_drewN ?_ _ | refine blk_drew ?_ | refine blk_alloc ?_ _)); refine blk_far ?_ NB310_314.out _; (with_reducible repeat (first | refine blk_drewN ?_ _ | refine blk_drew ?_ | refine blk_alloc ?_ _)); refine blk_far ?_ NB310_314.out _; (with_reducible repeat (first | refine blk_drewN ?_ _ | refine blk_drew ?_ | refine blk_alloc ?_ _)); refine blk_far ?_ NB310_314.out _; (with_reducible repeat (first | refine blk_drewN ?_ _ | refine blk_drew ?_ | refine blk_alloc ?_ _)); exact BK310.out⟩, ⟨by (with_reducible repeat (first | refine blk_drewN ?_ _ | refine blk_drew ?_ | refine blk_alloc ?_ _)); refine blk_put (cs := #[.int .i64 3, .slice none 0 0, .slice none 0 0]) ?_ 2 _ rfl; (with_reducible repeat (first | refine blk_drewN ?_ _ | refine blk_drew ?_ | refine blk_alloc ?_ _)); refine blk_put (cs := #[.int .i64 3, .slice none 0 0, .slice none 0 0]) ?_ 1 _ rfl; (with_reducible repeat (first | refine blk_drewN ?_ _ | refine blk_drew ?_ | refine blk_alloc ?_ _)); refine blk_put (cs := #[.int .i64 0, .slice none 0 0, .slice none 0 0]) ?_ 0 _ rfl; (with_reducible repeat (first | refine blk_drewN ?_ _ | refine blk_drew ?_ | refine blk_alloc ?_ _)); exact BK314.out⟩, ⟨bq2_ HB.out GE310.out GE314.out⟩⟩
 case round =>
  clear H'
  try clear c2
  try clear p2
  try clear c7
  try clear hcz8_0
  try clear hcz8_1
  try clear hcz8_2
  try clear hfz8_0
  try clear hfz8_1
  try clear hfz8_2
  obtain ⟨x4_1, x5_1, rfl, HA, HK1, HO_4, HO_311002, HO_315002, BK310, BK314, HB⟩ := hrel
  cases gk with
  | zero => exact absurd HA.out (by simp [fullerref11_alone.l0])
  | succ k1 =>
   have H := HA.out
   clear HA
   simp only [fullerref11_alone.l0] at H
   replace H := Option.bind_eq_some_iff.mp H
   obtain ⟨t315, A90, H⟩ := H
   replace H : (if x5_1 < t315 then (if x4_1.length < 17592186044416 then (fullerref11_alone.l0 k1 (x4_1 ++ [0]) (wrap64 (x5_1 + 1)) a0_0 l0_1 l0_2 3 y311) else (none)) else ((fullerref10_Check.f k1 (([(⟨3, ([] : List Int), y311⟩ : S25), (⟨a0_0, x4_1, l0_2⟩ : S25)] : List (S25)))).bind fun t322 => (some t322))) = some r := H
   have A9 := Aside0.mk A90
   clear A90
   by_cases c10 : x5_1 < t315
   ·rw [if_pos c10] at H
    have c10b0 : decide (x5_1 < t315) = true := decide_eq_true c10
    clear c10
    by_cases c11 : x4_1.length < 17592186044416
    ·rw [if_pos c11] at H
     have LMc11 := Aside0.mk c11
     clear c11
     obtain ⟨y316, hy316⟩ : ∃ y_ : List Int, y_ = (x4_1 ++ [0]) := ⟨_, rfl⟩
     replace H : (fullerref11_alone.l0 k1 y316 (wrap64 (x5_1 + 1)) a0_0 l0_1 l0_2 3 y311) = some r := by first | (rw [hy316]; with_reducible exact H) | (have H2_ := (Option.bind_some _ _).symm.trans H; rw [hy316]; with_reducible exact H2_) | (have H2_ := (Option.bind_some _ _).symm.trans H; with_reducible exact H2_) | with_reducible exact H | (rw [hy316]; exact H) | exact H
     have Ny316 := Aside0.mk hy316
     clear hy316
     have H' := Aside0.mk H
     clear H
     have hnb12 := NB310_314.out
     have hnc12 := NB314_310.out
     have hcz13_0 := hc_ BK310 0
     have hcz13_1 := hc_ BK310 1
     have hcz13_2 := hc_ BK310 2
     have hfz13_0 := blk_frozen BK310.out 0
     have hfz13_1 := blk_frozen BK310.out 1
     have hfz13_2 := blk_frozen BK310.out 2
     go_wp2_with (first | ((with_reducible refine gate_callee (f := 25) rfl ?_); refine gL_ (some 11) Try.func25 #[.int .i64 a0_0] ?_; (with_reducible refine (fullerref10_Arity.calls k1 a0_0 t315 _ A9.out).mono ?_); rintro e w' ⟨rfl, ⟨nd, rfl⟩⟩; refine ⟨_, rfl, ?_⟩) | ((with_reducible refine gate_builtin (b := .append) (xs := #[.tmp 15, .tmp 16]) rfl ?_); at_builtin; refine Kd.R_append (Kd.int .i64) (w0 := w) w.heap.size rfl (.tmp 15) (.tmp 16) 23 3 (.int .i64 0) 8 rfl Try.underlying23 info3 rfl (by decide) (by omega) u4 x4_1 0 [.int .i64 0] (fun k_ => (w.heap.size ≤ k_) ∧ some k_ ≠ (.slice Ao5 y311.length co5 : Value).ownBlock) (fun _ => False) rfl rfl ?aP (fun _ hk => hk.elim) ?aF ?aO ?aB ?aS ?aL ?_; (case aP => exact rfl); (case aB => exact (bq2_ HB.out GE310.out GE314.out)); (case aF => exact (fun k_ hk => ⟨(Nat.le_trans (below_size (bq2_ HB.out GE310.out GE314.out)) hk), Kd.fresh' (Kd.R_lt (mvR_ HO_315002.out)) k_ hk⟩)); (case aO => exact (mvR_ HO_4.out)); (case aS => exact (below_size (bq2_ HB.out GE310.out GE314.out))); (case aL => have := LMc11.out; omega); intro v317 w14 ho hb hg hat; rw [← Ny316.out] at ho; have HO318 := Aside0.mk (ho); replace HO_311002 := Aside0.mk (Kd.V_afterv (ok := (fun k_ => (P0_2_ k_ ∨ w.heap.size ≤ k_) ∧ some k_ ≠ (.slice Ao5 y311.length co5 : Value).ownBlock ∧ k_ ≠ gb310 ∧ k_ ≠ gb314)) (by (with_reducible repeat (first | apply Kd.V_alloc | apply Kd.V_drewN | apply Kd.V_drew)); exact Kd.V_mono HO_311002.out (fun _ hk => ⟨⟨hk.1, ⟨hk.2.2.1, ⟨hk.2.2.2.1, hk.2.2.2.2⟩⟩⟩, hk.2.1⟩)) hg hat); replace HO_315002 := Aside0.mk (Kd.R_after (ok := (fun k_ => (w.heap.size ≤ k_))) (mvR_ HO_315002.out) hg hat); replace BK310 := Aside0.mk (blk_grown (g := gb310) (o := .cells #[.int .i64 a0_0, .slice A0_1 l0_1.length c0_1, .slice A0_2 l0_2.length c0_2] 25 (0, 0)) (mvK_ BK310.out) hg (Kd.R_ne HO_4.out BK310.out (by decide))); replace BK314 := Aside0.mk (blk_grown (g := gb314) (o := .cells #[.int .i64 3, .slice none 0 0, .slice Ao5 y311.length co5] 25 (0, 0)) (mvK_ BK314.out) hg (Kd.R_ne HO_4.out BK314.out (by decide))); replace HB := Aside0.mk (hb); clear HO_4 ho hb hg hat))
     go_roundg k1
     case measure => have := HK1.out; omega
     case rel => exact ⟨(y316), (wrap64 (x5_1 + 1)), (by first | rfl | (simp; done) | (simp [*]; done)), H', ⟨by have := HK1.out; omega⟩, ⟨mvR_ HO318.out⟩, ⟨by (with_reducible repeat (first | apply Kd.V_alloc | apply Kd.V_drewN | apply Kd.V_drew)); exact Kd.V_mono HO_311002.out (fun _ hk => ⟨hk.1.1, ⟨hk.2, ⟨hk.1.2.1, ⟨hk.1.2.2.1, hk.1.2.2.2⟩⟩⟩⟩)⟩, ⟨mvR_ HO_315002.out⟩, ⟨by (with_reducible repeat (first | refine blk_drewN ?_ _ | refine blk_drew ?_ | refine blk_alloc ?_ _)); exact BK310.out⟩, ⟨by (with_reducible repeat (first | refine blk_drewN ?_ _ | refine blk_drew ?_ | refine blk_alloc ?_ _)); exact BK314.out⟩, ⟨bq2_ HB.out GE310.out GE314.out⟩⟩
    ·rw [if_neg c11] at H
     exact absurd H (by simp)
   ·rw [if_neg c10] at H
    have c10b0 : decide (x5_1 < t315) = false := decide_eq_false c10
    clear c10
    obtain ⟨y319, hy319⟩ : ∃ y_ : List (S25), y_ = (([(⟨3, ([] : List Int), y311⟩ : S25), (⟨a0_0, x4_1, l0_2⟩ : S25)] : List (S25))) := ⟨_, rfl⟩
    replace H : ((fullerref10_Check.f k1 y319).bind fun t322 => (some t322)) = some r := by first | (rw [hy319]; with_reducible exact H) | (have H2_ := (Option.bind_some _ _).symm.trans H; rw [hy319]; with_reducible exact H2_) | (have H2_ := (Option.bind_some _ _).symm.trans H; with_reducible exact H2_) | with_reducible exact H | (rw [hy319]; exact H) | exact H
    have Ny319 := Aside0.mk hy319
    clear hy319
    replace H := Option.bind_eq_some_iff.mp H
    obtain ⟨t322, A150, H⟩ := H
    replace H : (some t322) = some r := H
    have A15 := Aside0.mk A150
    clear A150
    obtain rfl := Option.some.inj H
    have hnb16 := NB310_314.out
    have hnc16 := NB314_310.out
    have hcz17_0 := hc_ BK310 0
    have hcz17_1 := hc_ BK310 1
    have hcz17_2 := hc_ BK310 2
    have hfz17_0 := blk_frozen BK310.out 0
    have hfz17_1 := blk_frozen BK310.out 1
    have hfz17_2 := blk_frozen BK310.out 2
    go_wp2_with (first | ((with_reducible refine gate_callee (f := 25) rfl ?_); refine gL_ (some 11) Try.func25 #[.int .i64 a0_0] ?_; (with_reducible refine (fullerref10_Arity.calls k1 a0_0 t315 _ A9.out).mono ?_); rintro e w' ⟨rfl, ⟨nd, rfl⟩⟩; refine ⟨_, rfl, ?_⟩; have hcz18_0 := hc_ BK314 0; have hcz18_1 := hc_ BK314 1; have hcz18_2 := hc_ BK314 2; have hfz18_0 := blk_frozen BK314.out 0; have hfz18_1 := blk_frozen BK314.out 1; have hfz18_2 := blk_frozen BK314.out 2; obtain ⟨Ao19, co19, eo19⟩ := Kd.R_slice HO_4.out; subst eo19) | ((with_reducible refine gate_dst (N := 25) rfl ?_); refine Kd.N_lit k25 _ 25 ?hg (N' := 25) ?hd (xs := ([(⟨3, ([] : List Int), y311⟩ : S25), (⟨a0_0, x4_1, l0_2⟩ : S25)] : List (S25))) (inner := [.int .i64 3, .slice none 0 0, .slice Ao5 y311.length co5, .int .i64 a0_0, .slice Ao19 x4_1.length co19, .slice A0_2 l0_2.length c0_2]) (ok := (fun k_ => (P0_2_ k_ ∨ w.heap.size ≤ k_) ∧ k_ ≠ gb310 ∧ k_ ≠ gb314)) (okp := (fun k_ => (P0_2_ k_ ∨ w.heap.size ≤ k_) ∧ k_ ≠ gb310 ∧ k_ ≠ gb314)) ?hr ?hp (fun _ hk => hk) ((show ∀ k_, wr.heap.size ≤ k_ → (fun k_ => (P0_2_ k_ ∨ w.heap.size ≤ k_) ∧ k_ ≠ gb310 ∧ k_ ≠ gb314) k_ from fun k_ hk => ⟨(.inr (Nat.le_trans (below_size (bq2_ HB.out GE310.out GE314.out)) hk)), Kd.freshB (g := gb310) (o := .cells #[.int .i64 a0_0, .slice A0_1 l0_1.length c0_1, .slice A0_2 l0_2.length c0_2] 25 (0, 0)) (mvK_ BK310.out) k_ hk, Kd.freshB (g := gb314) (o := .cells #[.int .i64 3, .slice none 0 0, .slice Ao5 y311.length co5] 25 (0, 0)) (mvK_ BK314.out) k_ hk⟩) _ (Nat.le_refl _)) (Below.refl _ _) (Nat.le_refl _) (by simp) ?_; (case hd => rfl); (case hg => rfl); (case hr => first | (go_simp; done) | (go_simp; rfl)); (case hp => exact (Reps.c3 (show Kd.FK k25 _ _ (⟨3, ([] : List Int), y311⟩ : S25) [.int .i64 3, .slice none 0 0, .slice Ao5 y311.length co5] from (k25_mkF _ _ (⟨3, ([] : List Int), y311⟩ : S25) (Nat.le_refl _) (Kd.F_nil _ _ _) (Kd.R_reads' (Kd.R_mono (ok' := (fun k_ => (P0_2_ k_ ∨ w.heap.size ≤ k_) ∧ k_ ≠ gb310 ∧ k_ ≠ gb314)) (Kd.R_types (Kd.R_types (HO_315002.out) BK310.out (by decide)) BK314.out (by decide)) (fun k_ hk => ⟨(.inr (hk.1.1.1)), ⟨hk.1.2, hk.2⟩⟩))).2.1 (Kd.R_F (Kd.R_mono (ok' := (fun k_ => (P0_2_ k_ ∨ w.heap.size ≤ k_) ∧ k_ ≠ gb310 ∧ k_ ≠ gb314)) (Kd.R_types (Kd.R_types (HO_315002.out) BK310.out (by decide)) BK314.out (by decide)) (fun k_ hk => ⟨(.inr (hk.1.1.1)), ⟨hk.1.2, hk.2⟩⟩))))) (Reps.c3 (show Kd.FK k25 _ _ (⟨a0_0, x4_1, l0_2⟩ : S25) [.int .i64 a0_0, .slice Ao19 x4_1.length co19, .slice A0_2 l0_2.length c0_2] from (k25_mkF _ _ (⟨a0_0, x4_1, l0_2⟩ : S25) (Kd.R_reads' (Kd.R_mono (ok' := (fun k_ => (P0_2_ k_ ∨ w.heap.size ≤ k_) ∧ k_ ≠ gb310 ∧ k_ ≠ gb314)) (Kd.R_types (Kd.R_types (HO_4.out) BK310.out (by decide)) BK314.out (by decide)) (fun k_ hk => ⟨(.inr (hk.1.1.1)), ⟨hk.1.2, hk.2⟩⟩))).2.1 (Kd.R_F (Kd.R_mono (ok' := (fun k_ => (P0_2_ k_ ∨ w.heap.size ≤ k_) ∧ k_ ≠ gb310 ∧ k_ ≠ gb314)) (Kd.R_types (Kd.R_types (HO_4.out) BK310.out (by decide)) BK314.out (by decide)) (fun k_ hk => ⟨(.inr (hk.1.1.1)), ⟨hk.1.2, hk.2⟩⟩))) (Kd.V_reads' (Kd.V_mono (ok' := (fun k_ => (P0_2_ k_ ∨ w.heap.size ≤ k_) ∧ k_ ≠ gb310 ∧ k_ ≠ gb314)) (HO_311002.out) (fun k_ hk => ⟨hk.1, ⟨hk.2.2.2.1, hk.2.2.2.2⟩⟩))).2.1 (Kd.V_F (Kd.V_mono (ok' := (fun k_ => (P0_2_ k_ ∨ w.heap.size ≤ k_) ∧ k_ ≠ gb310 ∧ k_ ≠ gb314)) (HO_311002.out) (fun k_ hk => ⟨hk.1, ⟨hk.2.2.2.1, hk.2.2.2.2⟩⟩))))) (Reps.none _ _)))); intro v320 w20 ho21 hb hg_ hnew_; clear hg_ hnew_; (first | rw [← Ny319.out] at ho21 | (simp only [Int.reduceToNat] at ho21; rw [← Ny319.out] at ho21)); have HO321 := Aside0.mk (Kd.N_lower ho21 (below_size (bq2_ HB.out GE310.out GE314.out))); replace HO_311002 := Aside0.mk (Kd.V_elder' (mvV_ HO_311002.out) (Kd.N_base ho21) hb); replace BK310 := Aside0.mk (blk_below (g := gb310) (o := .cells #[.int .i64 a0_0, .slice A0_1 l0_1.length c0_1, .slice A0_2 l0_2.length c0_2] 25 (0, 0)) (mvK_ BK310.out) hb); replace BK314 := Aside0.mk (blk_below (g := gb314) (o := .cells #[.int .i64 3, .slice none 0 0, .slice Ao5 y311.length co5] 25 (0, 0)) (mvK_ BK314.out) hb); replace HB := Aside0.mk (below_step (bq2_ HB.out GE310.out GE314.out) hb); clear HO_315002 HO_4 hb ho21; obtain ⟨Ao22, co22, eo22⟩ := Kd.N_slice HO321.out; subst eo22) | ((with_reducible refine gate_callee (f := 31) rfl ?_); refine gL_ (some 26) Try.func31 #[.slice Ao22 y319.length co22] ?_; (with_reducible refine (fullerref10_Check.calls k1 _ _ y319 t322 _ ?side1 ?side2 A15.out).mono ?_); (case side1 => exact mvC_ ((Kd.N_reads' HO321.out).2.2)); (case side2 => exact (Kd.N_reads' HO321.out).2.1); rintro e w23 ⟨rfl, hb⟩; refine ⟨_, rfl, ?_⟩; replace HO_311002 := Aside0.mk (Kd.V_below (mvV_ HO_311002.out) hb); replace HO321 := Aside0.mk (Kd.N_below (mvN_ HO321.out) hb); replace BK310 := Aside0.mk (blk_below (g := gb310) (o := .cells #[.int .i64 a0_0, .slice A0_1 l0_1.length c0_1, .slice A0_2 l0_2.length c0_2] 25 (0, 0)) (mvK_ BK310.out) hb); replace BK314 := Aside0.mk (blk_below (g := gb314) (o := .cells #[.int .i64 3, .slice none 0 0, .slice Ao5 y311.length co5] 25 (0, 0)) (mvK_ BK314.out) hb); replace HB := Aside0.mk (below_step (bq2_ HB.out GE310.out GE314.out) hb); (try clear hb)))
    go_ret
    exact ⟨by first | rfl | (simp <;> rfl) | (simp [*] <;> rfl), bq2_ HB.out GE310.out GE314.out⟩
def fullerref02_Wide.l0 : Nat → Int → List Int → Option (List Int)
  | 0, _, _ => none
  | k + 1, x1, x5 => if (x5.length : Int) < x1 then ((some (([1] : List Int) : List Int)).bind fun y329 => (if y329.length + x5.length < 17592186044416 then (fullerref02_Wide.l0 k x1 (y329 ++ x5)) else (none))) else (some x5)
def fullerref02_Wide.f (k : Nat) (l0 : List Int) (a1 : Int) : Option (List Int) := (some (([] : List Int) : List Int)).bind fun y323 => (if y323.length + l0.length < 17592186044416 then (fullerref02_Wide.l0 k a1 (y323 ++ l0)) else (none))
set_option maxHeartbeats 8000000 in
set_option maxRecDepth 100000 in
theorem fullerref02_Wide.calls (k : Nat) (A0 : Option Addr) (c0 : Nat) (l0 : List Int) (a1 : Int) (r : List Int) (w : World) (hr0 : Kd.C (Kd.int .i64) w A0 l0.length l0) (hc0 : l0.length ≤ c0) (h : fullerref02_Wide.f k l0 a1 = some r) :
    Calls Try.prog 54 #[.slice A0 l0.length c0, .int .i64 a1] w fun e w' => ∃ v0_ : Value, e = .returned (v0_) ∧ Kd.R (Kd.int .i64) 3 w' w.heap.size (fun _ => True) v0_ r ∧ Below w.heap.size w w' := by
  have HR0 := Aside0.mk hr0
  have HC0 := Aside0.mk hc0
  clear hr0 hc0
  have HB := Aside0.mk (Below.refl w.heap.size w)
  have H : ((some (([] : List Int) : List Int)).bind fun y323 => (if y323.length + l0.length < 17592186044416 then (fullerref02_Wide.l0 k a1 (y323 ++ l0)) else (none))) = some r := h
  clear h
  obtain ⟨y323, hy323⟩ : ∃ y_ : List Int, y_ = (([] : List Int)) := ⟨_, rfl⟩
  replace H : (if y323.length + l0.length < 17592186044416 then (fullerref02_Wide.l0 k a1 (y323 ++ l0)) else (none)) = some r := by first | (rw [hy323]; with_reducible exact H) | (have H2_ := (Option.bind_some _ _).symm.trans H; rw [hy323]; with_reducible exact H2_) | (have H2_ := (Option.bind_some _ _).symm.trans H; with_reducible exact H2_) | with_reducible exact H | (rw [hy323]; exact H) | exact H
  have Ny323 := Aside0.mk hy323
  clear hy323
  by_cases c3 : y323.length + l0.length < 17592186044416
  · rw [if_pos c3] at H
    have LMc3 := Aside0.mk c3
    clear c3
    obtain ⟨y326, hy326⟩ : ∃ y_ : List Int, y_ = (y323 ++ l0) := ⟨_, rfl⟩
    replace H : (fullerref02_Wide.l0 k a1 y326) = some r := by first | (rw [hy326]; with_reducible exact H) | (have H2_ := (Option.bind_some _ _).symm.trans H; rw [hy326]; with_reducible exact H2_) | (have H2_ := (Option.bind_some _ _).symm.trans H; with_reducible exact H2_) | with_reducible exact H | (rw [hy326]; exact H) | exact H
    have Ny326 := Aside0.mk hy326
    clear hy326
    have H' := Aside0.mk H
    clear H
    go_enter Try.func54, Try.ntmps54
    go_wp2_with (first | ((with_reducible refine gate_dst (N := 6) rfl ?_); refine Kd.R_lit (Kd.int .i64) _ 3 ?hg (N := 6) ?hd (xs := ([] : List Int)) (inner := []) (ok := fun _ => True) (okp := fun _ => True) ?hr ?hp (fun _ hk => hk) trivial (Below.refl _ _) (Nat.le_refl _) (by simp) ?_; (case hd => rfl); (case hg => rfl); (case hr => first | (go_simp; done) | (go_simp; rfl)); (case hp => exact (Reps.none _ _)); intro v324 w4 ho5 hb hg_ hnew_; clear hg_ hnew_; (first | rw [← Ny323.out] at ho5 | (simp only [Int.reduceToNat] at ho5; rw [← Ny323.out] at ho5)); have HO325 := Aside0.mk (Kd.R_lower ho5 (below_size (bq0_ HB.out))); replace HB := Aside0.mk (below_step (bq0_ HB.out) hb); clear hb ho5) | ((with_reducible refine gate_builtin (b := .append) (xs := #[.tmp 6, .tmp 7]) rfl ?_); at_builtin; refine Kd.R_append_rows (Kd.int .i64) (w0 := w) w.heap.size rfl (.tmp 6) (.tmp 7) 23 3 (.int .i64 0) 8 rfl Try.underlying23 info3 rfl (by decide) (by omega) v324 y323 l0 _ _ _ (fun _ => True) (fun _ => False) rfl rfl ?aO ?aR (fun _ _ h => h) (fun _ h => h.elim) ?aF ?aB ?aS ?aL ?_; (case aR => repeat (first | exact (Kd.C_below HR0.out HB.out) | (with_reducible refine Kd.C_alloc ?_ _) | (with_reducible refine Kd.C_drewN ?_ _) | (with_reducible refine Kd.C_drew ?_))); (case aB => exact (bq0_ HB.out)); (case aF => exact (fun _ _ => trivial)); (case aO => exact (mvR_ HO325.out)); (case aS => exact (below_size (bq0_ HB.out))); (case aL => have := LMc3.out; omega); intro v327 w6 ho hb hg hat; rw [← Ny326.out] at ho; have HO328 := Aside0.mk (ho); replace HB := Aside0.mk (hb); clear HO325 ho hb hg hat))
    go_loopg [5] k (fun kq v5 w' => ∃ (x5_1 : List Int), Aside0 (fullerref02_Wide.l0 kq a1 x5_1 = some r) ∧ Aside0 (kq ≤ k) ∧ Aside0 (Kd.R (Kd.int .i64) 3 w' w.heap.size (fun _ => True) v5 x5_1) ∧ Aside0 (Below w.heap.size w w'))
    case atStart => exact ⟨(y326), H', ⟨Nat.le_refl _⟩, ⟨mvR_ HO328.out⟩, ⟨bq0_ HB.out⟩⟩
    case round =>
      clear H'
      try clear p2
      try clear c3
      try clear c5
      obtain ⟨x5_1, HA, HK1, HO_5, HB⟩ := hrel
      cases gk with
      | zero => exact absurd HA.out (by simp [fullerref02_Wide.l0])
      | succ k1 =>
        have H := HA.out
        clear HA
        simp only [fullerref02_Wide.l0] at H
        by_cases c7 : (x5_1.length : Int) < a1
        · rw [if_pos c7] at H
          have c7b0 : decide ((x5_1.length : Int) < a1) = true := decide_eq_true c7
          clear c7
          obtain ⟨y329, hy329⟩ : ∃ y_ : List Int, y_ = (([1] : List Int)) := ⟨_, rfl⟩
          replace H : (if y329.length + x5_1.length < 17592186044416 then (fullerref02_Wide.l0 k1 a1 (y329 ++ x5_1)) else (none)) = some r := by first | (rw [hy329]; with_reducible exact H) | (have H2_ := (Option.bind_some _ _).symm.trans H; rw [hy329]; with_reducible exact H2_) | (have H2_ := (Option.bind_some _ _).symm.trans H; with_reducible exact H2_) | with_reducible exact H | (rw [hy329]; exact H) | exact H
          have Ny329 := Aside0.mk hy329
          clear hy329
          by_cases c8 : y329.length + x5_1.length < 17592186044416
          · rw [if_pos c8] at H
            have LMc8 := Aside0.mk c8
            clear c8
            obtain ⟨y332, hy332⟩ : ∃ y_ : List Int, y_ = (y329 ++ x5_1) := ⟨_, rfl⟩
            replace H : (fullerref02_Wide.l0 k1 a1 y332) = some r := by first | (rw [hy332]; with_reducible exact H) | (have H2_ := (Option.bind_some _ _).symm.trans H; rw [hy332]; with_reducible exact H2_) | (have H2_ := (Option.bind_some _ _).symm.trans H; with_reducible exact H2_) | with_reducible exact H | (rw [hy332]; exact H) | exact H
            have Ny332 := Aside0.mk hy332
            clear hy332
            have H' := Aside0.mk H
            clear H
            obtain ⟨Ao9, co9, eo9⟩ := Kd.R_slice HO_5.out
            subst eo9
            go_wp2_with (first | ((with_reducible refine gate_dst (N := 13) rfl ?_); refine Kd.R_lit (Kd.int .i64) _ 3 ?hg (N := 13) ?hd (xs := ([1] : List Int)) (inner := [.int .i64 1]) (ok := fun _ => True) (okp := fun _ => True) ?hr ?hp (fun _ hk => hk) trivial (Below.refl _ _) (Nat.le_refl _) (by simp) ?_; (case hd => rfl); (case hg => rfl); (case hr => first | (go_simp; done) | (go_simp; rfl)); (case hp => exact (Reps.one (show Kd.M (Kd.int .i64) _ _ _ 1 [.int .i64 1] from rfl) (Reps.none _ _))); intro v330 w10 ho11 hb hg_ hnew_; clear hg_ hnew_; (first | rw [← Ny329.out] at ho11 | (simp only [Int.reduceToNat] at ho11; rw [← Ny329.out] at ho11)); have HO331 := Aside0.mk (Kd.R_lower (Kd.R_new' ho11 (Kd.R_lt (mvR_ HO_5.out))) (below_size (bq0_ HB.out))); replace HO_5 := Aside0.mk (Kd.R_elder' (mvR_ HO_5.out) (Kd.R_base ho11) hb); replace HB := Aside0.mk (below_step (bq0_ HB.out) hb); clear hb ho11) | ((with_reducible refine gate_builtin (b := .append) (xs := #[.tmp 13, .tmp 14]) rfl ?_); at_builtin; refine Kd.R_append_rows (Kd.int .i64) (w0 := w) w.heap.size rfl (.tmp 13) (.tmp 14) 23 3 (.int .i64 0) 8 rfl Try.underlying23 info3 rfl (by decide) (by omega) v330 y329 x5_1 _ _ _ (fun k_ => some k_ ≠ (.slice Ao9 x5_1.length co9 : Value).ownBlock) (fun _ => False) rfl rfl ?aO ?aR (fun _ _ h => h) (fun _ h => h.elim) ?aF ?aB ?aS ?aL ?_; (case aR => repeat (first | exact (Kd.R_reads' HO_5.out).2.2 | (with_reducible refine Kd.C_alloc ?_ _) | (with_reducible refine Kd.C_drewN ?_ _) | (with_reducible refine Kd.C_drew ?_))); (case aB => exact (bq0_ HB.out)); (case aF => exact (fun k_ hk => Kd.fresh' (Kd.R_lt (mvR_ HO_5.out)) k_ hk)); (case aO => exact (by (with_reducible repeat (first | apply Kd.R_alloc | apply Kd.R_drewN | apply Kd.R_drew)); exact Kd.R_mono HO331.out (fun _ hk => hk.2))); (case aS => exact (below_size (bq0_ HB.out))); (case aL => have := LMc8.out; omega); intro v333 w12 ho hb hg hat; rw [← Ny332.out] at ho; have HO334 := Aside0.mk (ho); replace HO_5 := Aside0.mk (Kd.R_after (ok := (fun _ => True)) (mvR_ HO_5.out) hg hat); replace HB := Aside0.mk (hb); clear HO331 ho hb hg hat))
            go_roundg k1
            case measure => have := HK1.out; omega
            case rel => exact ⟨(y332), H', ⟨by have := HK1.out; omega⟩, ⟨by (with_reducible repeat (first | apply Kd.R_alloc | apply Kd.R_drewN | apply Kd.R_drew)); exact Kd.R_mono HO334.out (fun _ hk => trivial)⟩, ⟨bq0_ HB.out⟩⟩
          · rw [if_neg c8] at H
            exact absurd H (by simp)
        · rw [if_neg c7] at H
          have c7b0 : decide ((x5_1.length : Int) < a1) = false := decide_eq_false c7
          clear c7
          obtain rfl := Option.some.inj H
          obtain ⟨Ao13, co13, eo13⟩ := Kd.R_slice HO_5.out
          subst eo13
          go_wp2
          go_ret
          exact ⟨_, by first | rfl | (simp <;> rfl) | (simp [*] <;> rfl), mvR_ HO_5.out, bq0_ HB.out⟩
  · rw [if_neg c3] at H
    exact absurd H (by simp)
end Go.Proofs.Ytalmgghhpgfgoaa.A
