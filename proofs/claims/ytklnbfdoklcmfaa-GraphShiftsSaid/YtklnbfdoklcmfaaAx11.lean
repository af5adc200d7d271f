/- Lean functions that answer as the Go functions do, and the proofs that they do; no conditions. Written by this session's own driver: a scratch copy of the kit's print with the session's additions (wip/xprint). -/
import Derived.Test.YtklnbfdoklcmfaaAx0
import Derived.Test.YtklnbfdoklcmfaaAx2
import Derived.Test.YtklnbfdoklcmfaaAx3
import Derived.Test.YtklnbfdoklcmfaaAx10
namespace Go.Proofs.Ytklnbfdoklcmfaa.A
open Go.RowKit Go.Proofs.YtklnbfdoklcmfaaW.PrintWords Go.Proofs.YtklnbfdoklcmfaaW.PrintLast Go.Proofs.YtklnbfdoklcmfaaW.PrintMore
attribute [local go_sem] max2_int min2_int max_two min_two max_three min_three max_four min_four   -- for this text's walks alone
set_option linter.unusedVariables false
set_option linter.unusedSimpArgs false

def L38_0 : Array Bool := #[false, false, false, false, false, false, false, false, false, false, false, false, false, false, false, false]
def L38_1 : Array Bool := #[true, false, false, false, false, false, false, false, false, false, false, false, false, false, false, false]
def L38_2 : Array Bool := #[true, true, false, false, false, false, false, false, false, false, false, false, false, false, false, false]
def L38_3 : Array Bool := #[true, true, true, false, false, false, false, false, false, false, false, false, false, false, false, false]
def L38_4 : Array Bool := #[true, true, true, true, false, false, false, false, false, false, false, false, false, false, false, false]
def L38_5 : Array Bool := #[true, true, true, true, true, false, false, false, false, false, false, false, false, false, false, false]
def L38_6 : Array Bool := #[true, true, true, true, true, true, false, false, false, false, false, false, false, false, false, false]
def L38_7 : Array Bool := #[true, true, true, true, true, true, true, false, false, false, false, false, false, false, false, false]
def L38_8 : Array Bool := #[true, true, true, true, true, true, true, false, true, false, false, false, false, false, false, false]
def L38_9 : Array Bool := #[true, true, true, true, true, true, true, false, true, true, false, false, false, false, false, false]
def L38_10 : Array Bool := #[true, true, true, true, true, true, true, false, true, true, true, false, false, false, false, false]
def L38_11 : Array Bool := #[true, true, true, true, true, true, true, true, true, true, true, false, false, false, false, false]
def L38_12 : Array Bool := #[true, true, true, true, true, true, true, true, true, true, true, true, false, false, false, false]
def L38_13 : Array Bool := #[true, true, true, true, true, true, true, true, true, true, true, true, true, false, false, false]
def L38_14 : Array Bool := #[true, true, true, true, true, true, true, true, true, true, true, true, true, true, false, false]
def L38_15 : Array Bool := #[true, true, true, true, true, true, true, true, true, true, true, true, true, true, true, false]
def L38_16 : Array Bool := #[true, true, true, true, true, true, true, true, true, true, true, true, true, true, true, true]
/-! ### slices_Reverse_int_int: function 38 -/
def slices_Reverse_int_int.l0 : Nat → List Int → Int → Int → Option (List Int)
 | 0, _, _, _ => none
 | k + 1, x0, x2, x3 => if x2 < x3 then (if 0 ≤ x3 then (if x3 < (x0.length : Int) then (if 0 ≤ x2 then (if x2 < (x0.length : Int) then (slices_Reverse_int_int.l0 k ((x0.set (x2 : Int).toNat (rd x0 x3)).set (x3 : Int).toNat (rd x0 x2)) (wrap64 (x2 + 1)) (wrap64 (x3 - 1))) else (none)) else (none)) else (none)) else (none)) else (some x0)
def slices_Reverse_int_int.f (k : Nat) (l0 : List Int) : Option (List Int) := slices_Reverse_int_int.l0 k l0 0 (wrap64 ((l0.length : Int) - 1))
theorem slices_Reverse_int_int.mono_l : ∀ k, (∀ y0 y1 y2, LeO (slices_Reverse_int_int.l0 k y0 y1 y2) (slices_Reverse_int_int.l0 (k + 1) y0 y1 y2))
 | 0 => fun _ _ _ r h => by simp [slices_Reverse_int_int.l0] at h
 | k + 1 => by
  have ih0 := slices_Reverse_int_int.mono_l k
  ·intro y0 y1 y2
   unfold slices_Reverse_int_int.l0
   repeat' first
   | (with_reducible exact ih0 _ _ _)
   | (with_reducible exact LeO.refl _)
   | (with_reducible exact LeO.none _)
   | (with_reducible refine LeO.ite ?_ ?_)
   | (with_reducible refine LeO.bind ?_ (fun _ => ?_))
   | exact ih0 _ _ _
   | exact LeO.none _
   | refine LeO.ite ?_ ?_
   | refine LeO.bind ?_ (fun _ => ?_)
theorem slices_Reverse_int_int.mono : ∀ a0 k, LeO (slices_Reverse_int_int.f k a0) (slices_Reverse_int_int.f (k + 1) a0) := by
 intro a0 k
 have ih0 := slices_Reverse_int_int.mono_l k
 unfold slices_Reverse_int_int.f
 repeat' first
   | (with_reducible exact ih0 _ _ _)
   | (with_reducible exact LeO.refl _)
   | (with_reducible exact LeO.none _)
   | (with_reducible refine LeO.ite ?_ ?_)
   | (with_reducible refine LeO.bind ?_ (fun _ => ?_))
   | exact ih0 _ _ _
   | exact LeO.none _
   | refine LeO.ite ?_ ?_
   | refine LeO.bind ?_ (fun _ => ?_)
def slices_Reverse_int_int.T3 : Bool × List (List Nat × List Nat) := (true, [([], []), ([], []), ([], []), ([], []), ([], []), ([], []), ([4, 5], [4, 5]), ([6], [6]), ([], []), ([], []), ([8, 9], [8, 9]), ([10], [10]), ([0, 1, 0, 1, 4, 5, 6, 7, 11], [0, 1]), ([12, 7, 0, 1, 4, 5, 6, 7, 11], [7, 12]), ([2, 3, 0, 1, 2, 3, 4, 5, 6, 7, 8, 9, 10, 11, 12, 13], [2, 3]), ([14, 11, 13, 0, 1, 2, 3, 4, 5, 6, 7, 8, 9, 10, 11, 12, 13], [11, 14])])
def slices_Reverse_int_int.B3 : List Nat := [0, 0, 0, 0, 0, 0, 48, 112, 0, 0, 768, 1792, 4083, 8179, 16383, 32767]
theorem slices_Reverse_int_int.tab3 : rtab .any (opsOf Try.f38 3) = slices_Reverse_int_int.T3 := by kernel_rfl
theorem slices_Reverse_int_int.bits3 : waitsOk slices_Reverse_int_int.T3.2 slices_Reverse_int_int.B3 = true := by kernel_rfl
set_option maxHeartbeats 8000000 in
set_option maxRecDepth 100000 in
theorem slices_Reverse_int_int.calls (k : Nat) (P0_ : Nat → Prop) (u9000_ : Value) (l0 : List Int) (r : List Int) (w0 w : World) (hB : Below w0.heap.size w0 w) (ho0 : Kd.R (Kd.int .i64) 3 w w0.heap.size P0_ u9000_ l0) (h : slices_Reverse_int_int.f k l0 = some r) :
  Calls Try.prog 38 #[u9000_] w fun e w' => e = .returned (.tuple #[]) ∧ Kd.R (Kd.int .i64) 3 w' w0.heap.size (fun k_ => (P0_ k_ ∨ w.heap.size ≤ k_)) u9000_ r ∧ Below w0.heap.size w0 w' ∧ Kept w w' (fun k_ => P0_ k_) := by
 have HO0 := Aside0.mk (show Kd.R (Kd.int .i64) 3 w w0.heap.size (fun k_ => (P0_ k_ ∨ w.heap.size ≤ k_)) u9000_ l0 from Kd.R_mono ho0 (fun k_ hk => (.inl hk)))
 have HK := Aside0.mk (Kept.refl w (fun k_ => P0_ k_))
 have HW0 := Aside0.mk hB.size
 have HB := Aside0.mk hB
 clear hB
 have H : (slices_Reverse_int_int.l0 k l0 0 (wrap64 ((l0.length : Int) - 1))) = some r := h
 clear h
 have H' := Aside0.mk H
 clear H
 obtain ⟨Ao2, co2, eo2⟩ := Kd.R_slice HO0.out
 subst eo2
 go_enter Try.func38, Try.ntmps38
 go_wp2
 go_loopg [2, 3] k (fun kq v2 v3 w' => ∃ (x0_1 : List Int) (x2_1 : Int) (x3_1 : Int), v2 = .int .i64 x2_1 ∧ v3 = .int .i64 x3_1 ∧ Aside0 (slices_Reverse_int_int.l0 kq x0_1 x2_1 x3_1 = some r) ∧ Aside0 (kq ≤ k) ∧ Aside0 (Kd.R (Kd.int .i64) 3 w' w0.heap.size (fun k_ => (P0_ k_ ∨ w.heap.size ≤ k_)) (.slice Ao2 l0.length co2) x0_1) ∧ Aside0 (Kept w w' (fun k_ => P0_ k_)) ∧ Aside0 (Below w0.heap.size w0 w'))
 case atStart => exact ⟨(l0), (0), (wrap64 ((l0.length : Int) - 1)), (by first | rfl | (simp; done) | (simp [*]; done)), (by first | rfl | (simp; done) | (simp [*]; done)), H', ⟨Nat.le_refl _⟩, ⟨mvR_ HO0.out⟩, ⟨by repeat (first | (with_reducible first | exact HK.out | apply Kept.alloc | apply Kept.drewN | apply Kept.drew) | exact HK.out)⟩, ⟨bq0_ HB.out⟩⟩
 case round =>
  clear H'
  try clear p2
  obtain ⟨x0_1, x2_1, x3_1, rfl, rfl, HA, HK1, HO_0, HK, HB⟩ := hrel
  have hl0_1 := (Kd.R_reads' HO_0.out).1
  rw [hl0_1] at HO_0
  (try simp only [hl0_1])
  cases gk with
  | zero => exact absurd HA.out (by simp [slices_Reverse_int_int.l0])
  | succ k1 =>
   have H := HA.out
   clear HA
   simp only [slices_Reverse_int_int.l0] at H
   by_cases c3 : x2_1 < x3_1
   ·rw [if_pos c3] at H
    have c3b0 : decide (x2_1 < x3_1) = true := decide_eq_true c3
    clear c3
    by_cases c4 : 0 ≤ x3_1
    ·rw [if_pos c4] at H
     have c4b0 : decide (0 ≤ x3_1) = true := decide_eq_true c4
     clear c4
     by_cases c5 : x3_1 < (x0_1.length : Int)
     ·rw [if_pos c5] at H
      have c5b0 : decide (x3_1 < (x0_1.length : Int)) = true := decide_eq_true c5
      (try (have c5b0_hl0_1 := c5b0; simp only [hl0_1] at c5b0_hl0_1))
      clear c5
      by_cases c6 : 0 ≤ x2_1
      ·rw [if_pos c6] at H
       have c6b0 : decide (0 ≤ x2_1) = true := decide_eq_true c6
       clear c6
       by_cases c7 : x2_1 < (x0_1.length : Int)
       ·rw [if_pos c7] at H
        have c7b0 : decide (x2_1 < (x0_1.length : Int)) = true := decide_eq_true c7
        (try (have c7b0_hl0_1 := c7b0; simp only [hl0_1] at c7b0_hl0_1))
        clear c7
        obtain ⟨y255, hy255⟩ : ∃ y_ : List Int, y_ = (x0_1.set (x2_1 : Int).toNat (rd x0_1 x3_1)) := ⟨_, rfl⟩
        replace H : (slices_Reverse_int_int.l0 k1 (y255.set (x3_1 : Int).toNat (rd x0_1 x2_1)) (wrap64 (x2_1 + 1)) (wrap64 (x3_1 - 1))) = some r := by first | (rw [hy255]; with_reducible exact H) | (have H2_ := (Option.bind_some _ _).symm.trans H; rw [hy255]; with_reducible exact H2_) | (have H2_ := (Option.bind_some _ _).symm.trans H; with_reducible exact H2_) | with_reducible exact H | (rw [hy255]; exact H) | exact H
        have Ny255 := Aside0.mk hy255
        clear hy255
        obtain ⟨y256, hy256⟩ : ∃ y_ : List Int, y_ = (y255.set (x3_1 : Int).toNat (rd x0_1 x2_1)) := ⟨_, rfl⟩
        replace H : (slices_Reverse_int_int.l0 k1 y256 (wrap64 (x2_1 + 1)) (wrap64 (x3_1 - 1))) = some r := by first | (rw [hy256]; with_reducible exact H) | (have H2_ := (Option.bind_some _ _).symm.trans H; rw [hy256]; with_reducible exact H2_) | (have H2_ := (Option.bind_some _ _).symm.trans H; with_reducible exact H2_) | with_reducible exact H | (rw [hy256]; exact H) | exact H
        have Ny256 := Aside0.mk hy256
        clear hy256
        have H' := Aside0.mk H
        clear H
        try go_wp2
        replace HO_0 := Aside0.mk (Kd.R_drew HO_0.out)
        replace HK := Aside0.mk (Kept.drew HK.out)
        replace HB := Aside0.mk (below_drew1 HB.out)
        have p253 : 0 ≤ (x3_1 : Int) := od_
        have q253 : x3_1 < (x0_1.length : Int) := od_
        obtain ⟨ad253, e253, hx253_0⟩ := Kd.at_int (Kd.R_reads' HO_0.out).2.2 x3_1 p253 q253
        cases e253
        replace p253 := eq_true p253
        replace q253 := eq_true q253
        have p254 : 0 ≤ (x2_1 : Int) := od_
        have q254 : x2_1 < (x0_1.length : Int) := od_
        obtain ⟨ad254, e254, hx254_0⟩ := Kd.at_int (Kd.R_reads' HO_0.out).2.2 x2_1 p254 q254
        obtain rfl : ad253 = ad254 := (by injection e254)
        replace p254 := eq_true p254
        replace q254 := eq_true q254
        have p8 : 0 ≤ (x2_1 : Int) := od_
        have q8 : (x2_1 : Int) < ((x0_1.length : Int) : Int) := od_
        obtain ⟨go8, co8, eo8, gb8, gl8, cl8, HG8⟩ := Kd.R_form HO_0.out (by omega)
        (first | cases eo8 | (injection eo8 with ea_ en_ ec_; (first | subst ea_ | (injection ea_ with ea_; subst ea_)); subst ec_; clear en_))
        have GB8 := Aside0.mk gb8
        have GG8 := Aside0.mk HG8
        clear gb8 gl8 HG8
        have HMgo8 := Aside0.mk (show (P0_ go8 ∨ w.heap.size ≤ go8) from (HO_0.out.1 _ rfl))
        (first | simp only [add_plain] at hx253_0 | skip)
        (first | simp only [add_plain] at hx254_0 | skip)
        obtain ⟨hx8_0, hf8_0⟩ := Kd.R_celln 0 HO_0.out (x2_1 : Int) p8 q8
        replace p8 := eq_true p8
        replace q8 := eq_true q8
        have HP11 := Kd.R_putn HO_0.out (x2_1 : Int) (rd x0_1 x3_1)
        rw [← Ny255.out] at HP11
        have HQ11 := Aside0.mk HP11
        clear HP11
        have p9 : 0 ≤ (x3_1 : Int) := od_
        have q9 : (x3_1 : Int) < ((x0_1.length : Int) : Int) := od_
        obtain ⟨hx9_0, hf9_0⟩ := Kd.R_celln 0 HQ11.out (x3_1 : Int) p9 q9
        replace p9 := eq_true p9
        replace q9 := eq_true q9
        have HP12 := Kd.R_putn HQ11.out (x3_1 : Int) (rd x0_1 x2_1)
        rw [← Ny256.out] at HP12
        have HQ12 := Aside0.mk HP12
        clear HP12
        refine start_ (n := 16) (S := fun w' => w'.cell? ⟨go8, (x3_1).toNat, none⟩ = some (.int .i64 (rd x0_1 x3_1)) ∧ w'.cell? ⟨go8, (x2_1).toNat, none⟩ = some (.int .i64 (rd x0_1 x2_1))) (ds := [13, 15]) L38_0 (by kernel_rfl) rfl rfl ⟨hx253_0, hx254_0⟩ (fun hHeld => ?_); refine with_tabW slices_Reverse_int_int.tab3 slices_Reverse_int_int.bits3 (fun HT_ HW_ => ?_)
        generalize wr.drew = w10 at HO_0 HK HB GG8 HQ11 HQ12 hf8_0 hf9_0 hx253_0 hx254_0 hx8_0 hx9_0 hHeld ⊢
        refine pu_ 0 (some 14) L38_1 HT_ ?_
        refine pu_ 1 (some 15) L38_2 HT_ ?_
        refine pu_ 2 (some 16) L38_3 HT_ ?_
        refine pu_ 3 (some 17) L38_4 HT_ ?_
        refine pu_ 4 (some 18) L38_5 HT_ ?_
        refine pu_ 5 (some 19) L38_6 HT_ ?_
        refine pu_ 6 (some 20) L38_7 HT_ ?_
        refine pu_ 8 (some 22) L38_8 HT_ ?_
        refine pu_ 9 (some 23) L38_9 HT_ ?_
        refine pu_ 10 (some 24) L38_10 HT_ ?_
        refine ta_ 7 (some 21) L38_11 HT_ HW_ hHeld ?_ (hy := by rintro w' ⟨s0, s1⟩; go_simp; with_reducible rfl)
        refine ta_ 11 (some 25) L38_12 HT_ HW_ hHeld ?_ (hy := by rintro w' ⟨s0, s1⟩; go_simp; with_reducible rfl)
        refine pu_ 12 (some 26) L38_13 HT_ ?_
        refine last_ (i := 13) (N := none) L38_14 rfl rfl (one_of HT_.out (by kernel_rfl)) (by decide) (fun K hK => ?_)
        refine skip_ (w1 := ?_) (by rfl) rfl ?_ ?_
        rotate_left
        ·go_simp
         rfl
        refine hK.out _ _ ?_
        clear hK K
        refine pu_ 14 (some 27) L38_15 HT_ ?_
        refine last_ (i := 15) (N := none) L38_16 rfl rfl (one_of HT_.out (by kernel_rfl)) (by decide) (fun K hK => ?_)
        refine skip_ (w1 := ?_) (by rfl) rfl ?_ ?_
        rotate_left
        ·go_simp
         rfl
        refine hK.out _ _ ?_
        clear hK K
        refine done_ (done_of HT_.out (by kernel_rfl)) ?_
        try go_wp2
        (try simp only [← hl0_1])
        go_roundg k1
        case measure => have := HK1.out; omega
        case rel => exact ⟨(y256), (wrap64 (x2_1 + 1)), (wrap64 (x3_1 - 1)), (by first | rfl | (simp; done) | (simp [*]; done)), (by first | rfl | (simp; done) | (simp [*]; done)), H', ⟨by have := HK1.out; omega⟩, ⟨by (try simp only [hl0_1]); (with_reducible repeat (first | apply Kd.R_alloc | apply Kd.R_drewN | apply Kd.R_drew)); exact HQ12.out⟩, ⟨by repeat (first | (with_reducible first | exact HK.out | apply Kept.alloc | apply Kept.drewN | apply Kept.drew | refine Kept.setCell ?_ HMgo8.out _ | refine Kept.setCell ?_ HMgo8.out _) | exact HK.out)⟩, ⟨bq2_ HB.out GB8.out GB8.out⟩⟩
       ·rw [if_neg c7] at H
        exact absurd H (by simp)
      ·rw [if_neg c6] at H
       exact absurd H (by simp)
     ·rw [if_neg c5] at H
      exact absurd H (by simp)
    ·rw [if_neg c4] at H
     exact absurd H (by simp)
   ·rw [if_neg c3] at H
    have c3b0 : decide (x2_1 < x3_1) = false := decide_eq_false c3
    clear c3
    obtain rfl := Option.some.inj H
    go_wp2
    first | go_end0 | ((try simp only [Exit.inBlock, Exit.then]); refine bodyPost_ret (results_none rfl _ _ _) rfl ?_)
    exact ⟨by first | rfl | (simp <;> rfl) | (simp [*] <;> rfl), (by first | exact (mvR_ HO_0.out) | (simp only [hl0_1]; exact (mvR_ HO_0.out))), bq0_ HB.out, by repeat (first | (with_reducible first | exact HK.out | apply Kept.alloc | apply Kept.drewN | apply Kept.drew) | exact HK.out)⟩

/-! ### graph_Live: function 22 (given) -/
/-- A row turned, round by round. -/
theorem rev_l0 (d : Nat) : ∀ (k i j1 : Nat) (x : List Int), j1 - i = d → i ≤ j1 → j1 ≤ x.length → x.length < 1000 → d < k → ∃ r, slices_Reverse_int_int.l0 k x (i : Int) ((j1 : Int) - 1) = some r ∧ r.length = x.length ∧ ∀ p, r[p]? = if i ≤ p ∧ p < j1 then x[i + j1 - 1 - p]? else x[p]? := by
 induction d using Nat.strongRecOn with
 | _ d ih =>
  intro k i j1 x hd hij hj hx hk
  obtain ⟨k, rfl⟩ : ∃ q, k = q + 1 := ⟨k - 1, by omega⟩
  by_cases c : i + 1 < j1
  ·rw [slices_Reverse_int_int.l0, if_pos (by omega), if_pos (by omega), if_pos (by omega), if_pos (by omega), if_pos (by omega)]
   have e1 : wrap64 ((i : Int) + 1) = ((i + 1 : Nat) : Int) := by unfold wrap64; omega
   have e2 : wrap64 ((j1 : Int) - 1 - 1) = ((j1 - 1 : Nat) : Int) - 1 := by unfold wrap64; omega
   rw [e1, e2]
   have t1 : ((i : Nat) : Int).toNat = i := by omega
   have t2 : ((j1 : Int) - 1).toNat = j1 - 1 := by omega
   have r1 : rd x (i : Int) = x[i] := by simp [rd, show i < x.length by omega]
   have r2 : rd x ((j1 : Int) - 1) = x[j1 - 1] := by simp [rd, t2, show j1 - 1 < x.length by omega]
   rw [t1, t2, r1, r2]
   obtain ⟨r, h1, h2, h3⟩ := ih (d - 2) (by omega) k (i + 1) (j1 - 1) ((x.set i x[j1 - 1]).set (j1 - 1) x[i]) (by omega) (by omega) (by simp; omega) (by simpa using hx) (by omega)
   refine ⟨r, h1, by simpa using h2, fun p => ?_⟩
   rw [h3]
   by_cases p1 : i + 1 ≤ p ∧ p < j1 - 1
   ·rw [if_pos p1, if_pos (by omega), List.getElem?_set_ne (by omega), List.getElem?_set_ne (by omega), show i + 1 + (j1 - 1) - 1 - p = i + j1 - 1 - p by omega]
   ·rw [if_neg p1]
    by_cases p2 : p = j1 - 1
    ·subst p2
     rw [List.getElem?_set_self (by simp; omega), if_pos (by omega), show i + j1 - 1 - (j1 - 1) = i by omega, List.getElem?_eq_getElem (by omega)]
    ·rw [List.getElem?_set_ne (by omega)]
     by_cases p3 : p = i
     ·subst p3
      rw [List.getElem?_set_self (by omega), if_pos (by omega), show p + j1 - 1 - p = j1 - 1 by omega, List.getElem?_eq_getElem (by omega)]
     ·rw [List.getElem?_set_ne (by omega), if_neg (by omega)]
  ·rw [slices_Reverse_int_int.l0, if_neg (by omega)]
   refine ⟨x, rfl, rfl, fun p => ?_⟩
   split
   ·rename_i hp
    rw [show i + j1 - 1 - p = p by omega]
   ·rfl
theorem rev_any (x : List Int) (hx : x.length < 1000) (k : Nat) (hk : x.length < k) : slices_Reverse_int_int.f k x = some x.reverse := by
 unfold slices_Reverse_int_int.f
 obtain ⟨r, h1, h2, h3⟩ := rev_l0 (x.length - 0) k 0 x.length x rfl (by omega) (by omega) hx (by omega)
 have e : wrap64 ((x.length : Int) - 1) = (x.length : Int) - 1 := by unfold wrap64; omega
 rw [e]
 rw [show ((0 : Nat) : Int) = 0 from rfl] at h1
 rw [h1]
 congr 1
 apply List.ext_getElem?
 intro p
 rw [h3]
 by_cases c : p < x.length
 ·rw [if_pos (by omega), List.getElem?_reverse c, show 0 + x.length - 1 - p = x.length - 1 - p by omega]
 ·rw [if_neg (by omega), List.getElem?_eq_none (by omega), List.getElem?_eq_none (by simp; omega)]
theorem wr64' (x : Int) : IntKind.i64.wrap x = wrap64 x := by
 rw [IntKind.wrap_i64]; unfold wrap64; omega
theorem wone {x : Nat} (h : x < 9223372036854775807) : wrap64 ((x : Int) + 1) = ((x + 1 : Nat) : Int) := by unfold wrap64; omega
theorem wsub1 {x : Nat} (h : x < 4611686018427387904) : wrap64 ((x : Int) - 1) = (x : Int) - 1 := by unfold wrap64; omega
theorem wsub2 {x y m : Nat} (h : x < 4611686018427387904) (h2 : x = y + 1 + m) : wrap64 ((x : Int) - 1 - (y : Int)) = (m : Int) := by unfold wrap64; omega
/-- Which nodes are live, from the last one down: those that are told to be live, and what these use. -/
def lvGo (l : List S35) : Nat → List Int → List Int
 | 0, _ => []
 | m + 1, S => if (m : Int) ∈ S then (m : Int) :: lvGo l m (S ++ (rd_T35 l (m : Int)).f1) else lvGo l m S
theorem lvGo_len (l : List S35) : ∀ m S, (lvGo l m S).length ≤ m
 | 0, _ => Nat.le_refl _
 | m + 1, S => by
  unfold lvGo
  split
  ·simp only [List.length_cons]
   have := lvGo_len l m (S ++ (rd_T35 l (m : Int)).f1)
   omega
  ·have := lvGo_len l m S
   omega
def graph_Live.f (l0 : List S35) : Option (List Int) := some (if gchk l0 = true then (lvGo l0 l0.length [(l0.length : Int) - 1]).reverse else [])
/-- What is known of the map ahead of a round. -/
structure LvInv (w0 w : World) (b : Nat) (S : List Int) : Prop where
 bel : Below w0.heap.size w0 w
 ge : w0.heap.size ≤ b
 im : ∃ es, IM w b es ∧ ∀ k, imGet k es = if k ∈ S then some (.bool true) else none
theorem LvInv.keep {w0 w w' : World} {b : Nat} {S : List Int} (h : LvInv w0 w b S) (hb : Below w0.heap.size w0 w') (hk : w'.heap[b]? = w.heap[b]?) : LvInv w0 w' b S := by
 obtain ⟨es, h1, h2⟩ := h.im
 exact ⟨hb, h.ge, es, h1.keep hk, h2⟩
theorem LvInv.lt {w0 w : World} {b : Nat} {S : List Int} (h : LvInv w0 w b S) : b < w.heap.size := by
 obtain ⟨es, h1, h2⟩ := h.im
 exact h1.lt
theorem lv_put {S : List Int} {es : List (Int × Value)} (h : ∀ k, imGet k es = if k ∈ S then some (.bool true) else none) (x : Int) : ∀ k, imGet k (imPut x (.bool true) es) = if k ∈ S ++ [x] then some (.bool true) else none := by
 intro k
 rw [imGet_put, h]
 by_cases hx : k = x
 ·simp [hx]
 ·simp [hx]
theorem lv_get {S : List Int} {es : List (Int × Value)} (h : ∀ k, imGet k es = if k ∈ S then some (.bool true) else none) (x : Int) : (imGet x es).getD (.bool false) = .bool (decide (x ∈ S)) := by
 rw [h]
 by_cases hx : x ∈ S <;> simp [hx]
theorem LvInv.put {w0 w w1 : World} {b : Nat} {S : List Int} {es : List (Int × Value)} (h : LvInv w0 w b S) (he : ∀ k, imGet k es = if k ∈ S then some (.bool true) else none) {x : Int} (hi : IM w1 b (imPut x (.bool true) es)) (hg : w.grownBy w1 (some b)) : LvInv w0 w1 b (S ++ [x]) :=
 ⟨h.bel.grown hg (Nat.le_trans h.ge (Nat.le_of_lt h.lt)) (fun k hk => by injection hk with hk; have := h.ge; omega), h.ge, _, hi, lv_put he x⟩
theorem wpList_im_look1v {P : Program} {t K E : TypeId} {w : World} {b : Nat} {es : List (Int × Value)} {ops : Array Oper} {rest : List Oper} {o : Oper} {a : Act} {Q : Exit → Act → World → Prop} (hg : o.guard = none) (m x : Operand) (hop : o.op = Op.lookup t m x false)
  (ht : P.underlying t = some (.map K E)) (hK : P.underlying K = some (.int .i64)) {z : Value} (hz : (zeroValue E).run P w = .ok z w) (k : Int) (v : Value) (hv : (imGet k es).getD z = v) (hown : IM w b es) (hm : a.eval m = .map (some b)) (hx : a.eval x = .int .i64 k)
  (h : wpList P ops Q rest (a.put o.dst v) w) : wpList P ops Q (o :: rest) a w := by
 subst hv
 exact wpList_im_look1 hg m x hop ht hK hz k hown hm hx h
set_option maxHeartbeats 8000000 in
set_option maxRecDepth 100000 in
theorem graph_Live.calls (A0 : Option Addr) (c0 : Nat) (l0 : List S35) (r : List Int) (w : World) (hr0 : Kd.C k35 w A0 l0.length l0) (hc0 : l0.length ≤ c0) (h : graph_Live.f l0 = some r) :
  Calls Try.prog 22 #[.slice A0 l0.length c0] w fun e w' => ∃ v0_ : Value, e = .returned (v0_) ∧ Kd.R (Kd.int .i64) 3 w' w.heap.size (fun _ => True) v0_ r ∧ Below w.heap.size w w' := by
 unfold graph_Live.f at h
 replace h := Option.some.inj h
 have HR := Aside0.mk hr0
 have HC := Aside0.mk hc0
 have hmm := @run_makeMap Try.prog
 have hu35 := Try.underlying35
 have hG := Aside0.mk (show graph_Check.f l0 = some (gchk l0) from rfl)
 clear hr0 hc0
 cases hg : gchk l0 with
 | false =>
  rw [hg] at h hG
  obtain rfl : [] = r := h
  clear hg
  go_enter Try.func22, Try.ntmps22
  go_wp2_with ((go_at_call 13; refine (graph_Check.calls _ _ l0 false _ HR.out HC.out hG.out).mono ?_; rintro e w5 ⟨rfl, hb⟩; have HB := Aside0.mk hb; clear hb))
  go_ret
  exact ⟨_, rfl, Kd.R_nil _ _ _ _ _, HB.out⟩
 | true =>
  have hlen : 0 < l0.length ∧ l0.length ≤ 24 := by
   unfold gchk at hg
   simp only [Bool.and_eq_true, decide_eq_true_eq] at hg
   omega
  rw [hg, if_pos rfl] at h
  rw [hg] at hG
  have HH := Aside0.mk h
  have HL := Aside0.mk hlen
  have ew : wrap64 ((l0.length : Int) - 1) = (l0.length : Int) - 1 := wsub1 (by omega)
  have ew' : IntKind.i64.wrap ((l0.length : Int) - 1) = (l0.length : Int) - 1 := by rw [wr64', ew]
  have HEW := Aside0.mk (And.intro ew ew')
  have hz4 : ∀ W : World, (zeroValue 4).run Try.prog W = .ok (.bool false) W := fun W => by kernel_rfl
  clear hg h
  go_enter Try.func22, Try.ntmps22
  go_wp2_with (first | (go_at_call 13; refine (graph_Check.calls _ _ l0 true _ HR.out HC.out hG.out).mono ?_; rintro e w5 ⟨rfl, hb⟩; have HB := Aside0.mk hb; clear hb) | ((with_reducible refine wpList_im_put (o := ⟨none, .insert 53 _ _ _, _, _, _, _⟩) rfl _ _ _ (Or.inl rfl) Try.underlying53 Try.underlying3 _ (.bool true) (IM.made _) rfl rfl rfl ?_); intro w1 h1 g1; have HI := Aside0.mk (show LvInv w w1 w5.heap.size [(l0.length : Int) - 1] from ⟨(below_alloc HB.out _).grown g1 (by have := HB.out.size; simp; omega) (fun k hk => by injection hk with hk; have := HB.out.size; omega), HB.out.size, _, h1, fun k => by rw [imGet_put]; by_cases hx : k = (l0.length : Int) - 1 <;> simp [hx, imGet]⟩); clear h1 g1))
  obtain ⟨b, hbb⟩ : ∃ b, b = w5.heap.size := ⟨_, rfl⟩
  rw [← hbb] at HI
  rw [← hbb]
  have HT := Aside0.mk (rfl : lvGo l0 l0.length [(l0.length : Int) - 1] = lvGo l0 l0.length [(l0.length : Int) - 1])
  go_loopg [2, 18] l0.length (fun gg v2 v18 wr => ∃ (kk : Nat) (O S : List Int), v18 = .int .i64 kk ∧ Aside0 (kk ≤ l0.length ∧ l0.length - kk ≤ gg) ∧ Aside0 (Kd.R (Kd.int .i64) 3 wr w.heap.size (fun g => g ≠ b) v2 O) ∧ Aside0 (LvInv w wr b S) ∧ Aside0 (O ++ lvGo l0 (l0.length - kk) S = lvGo l0 l0.length [(l0.length : Int) - 1] ∧ O.length ≤ kk))
  case atStart => exact ⟨0, [], [(l0.length : Int) - 1], rfl, ⟨Nat.zero_le _, by omega⟩, ⟨Kd.R_nil _ _ _ _ _⟩, HI, ⟨rfl, Nat.le_refl _⟩⟩
  case round =>
   obtain ⟨kk, O, S, rfl, HK, HO, HV, HE⟩ := hrel
   clear HI HT HB hbb ew ew'
   by_cases hlt : kk < l0.length
   ·obtain ⟨m, hm⟩ : ∃ m, l0.length - kk = m + 1 := ⟨l0.length - kk - 1, by omega⟩
    have b0 : decide ((kk : Int) < (l0.length : Int)) = true := decide_eq_true (by omega)
    have b1 : decide (kk < l0.length) = true := decide_eq_true hlt
    have em : wrap64 ((l0.length : Int) - 1 - (kk : Int)) = (m : Int) := wsub2 (Nat.lt_of_le_of_lt HL.out.2 (by decide)) (by omega)
    have em' : IntKind.i64.wrap ((l0.length : Int) - 1 - (kk : Int)) = (m : Int) := by rw [wr64', em]
    have ek : wrap64 ((kk : Int) + 1) = ((kk + 1 : Nat) : Int) := wone (Nat.lt_trans (Nat.lt_of_lt_of_le hlt HL.out.2) (by decide))
    have ek' : IntKind.i64.wrap ((kk : Int) + 1) = ((kk + 1 : Nat) : Int) := by rw [wr64', ek]
    have HEK := Aside0.mk (And.intro (And.intro em em') (And.intro ek ek'))
    clear em em' ek ek'
    have HE1 := HE.out
    rw [hm] at HE1
    have hmk : l0.length - (kk + 1) = m := by omega
    have HMK := Aside0.mk hmk
    obtain ⟨es, hes1, hes2⟩ := HV.out.im
    have hget := lv_get hes2 (m : Int)
    have HES := Aside0.mk hes1
    have HES2 := Aside0.mk hes2
    have hmlt : (m : Int) < (l0.length : Int) := by omega
    clear hm hmk hes1 hes2
    by_cases hin : (m : Int) ∈ S
    ·rw [lvGo, if_pos hin] at HE1
     rw [decide_eq_true hin] at hget
     have HGET := Aside0.mk hget
     obtain ⟨ad, A1, c1, A2, c2, eA, hx0, hx1, hx2, hl1, hi1, hl2, hi2⟩ := at_T35 HR.out (m : Int) (by omega) hmlt
     obtain ⟨q, hq⟩ : ∃ q, q = (rd_T35 l0 (m : Int)).f1 := ⟨_, rfl⟩
     rw [← hq] at hx1 hl1 hi1 HE1
     have HE2 := Aside0.mk HE1
     have HI1 := Aside0.mk hi1
     simp only [Int.toNat_natCast] at hx1
     have HX1 := Aside0.mk hx1
     have HKK := Aside0.mk hlt
     have p0 : (0 ≤ (m : Int)) = True := eq_true (by omega)
     have p1 : ((m : Int) < (l0.length : Int)) = True := eq_true hmlt
     subst eA
     clear hget HE1 hin hx0 hx1 hx2 hl1 hi1 hl2 hi2 hq hmlt hlt HE
     obtain ⟨⟨em, em'⟩, ek, ek'⟩ := HEK.out
     obtain ⟨ew, ew'⟩ := HEW.out
     go_upto_region 9 with ((with_reducible refine wpList_im_look1v (o := ⟨_, .lookup 53 _ _ false, _, _, _, _⟩) rfl _ _ rfl Try.underlying53 Try.underlying3 (hz4 _) _ _ HGET.out HES.out rfl rfl ?_))
     go_wp2_with ((with_reducible refine gate_builtin (b := .append) (xs := #[.tmp 30, .tmp 32]) rfl ?_); at_builtin; refine Kd.R_append (Kd.int .i64) (w0 := w) w.heap.size rfl (.tmp 30) (.tmp 32) 25 3 (.int .i64 0) 8 rfl Try.underlying25 info3 rfl (by decide) (by omega) u2 O (m : Int) [.int .i64 (m : Int)] (fun g => g ≠ b) (fun _ => False) rfl rfl ?aP (fun _ hk => hk.elim) ?aF ?aO ?aB ?aS ?aL ?_; (case aP => exact rfl); (case aB => exact HV.out.bel); (case aF => exact (fun g hg => Nat.ne_of_gt (Nat.lt_of_lt_of_le HV.out.lt hg))); (case aO => exact (mvR_ HO.out)); (case aS => exact (below_size HV.out.bel)); (case aL => have := HE2.out.2; have := HL.out; have := HK.out; omega); intro v251 w16 ho hb hg hat; have HO2 := Aside0.mk ho; have HV2 := Aside0.mk (HV.out.keep hb (hg.block b HV.out.lt (fun e => HO.out.1 b e.symm rfl))); have hxx := pw_cell_below hb HX1.out; clear ho hb hg hat)
     obtain ⟨n, hn⟩ : ∃ n, n = q.length := ⟨_, rfl⟩
     have HN := Aside0.mk hn
     rw [← hn]
     clear hn HV HO
     go_loopg [40] n (fun gg v40 wr => ∃ (jj : Nat), v40 = .int .i64 jj ∧ Aside0 (jj ≤ n ∧ n - jj ≤ gg) ∧ Aside0 (Kd.R (Kd.int .i64) 3 wr w.heap.size (fun g => g ≠ b) v251 (O ++ [(m : Int)])) ∧ Aside0 (LvInv w wr b (S ++ q.take jj)))
     case atStart => exact ⟨0, rfl, ⟨Nat.zero_le _, by omega⟩, HO2, ⟨by rw [List.take_zero, List.append_nil]; exact HV2.out⟩⟩
     case round =>
      obtain ⟨jj, rfl, HJ, HO3, HV3⟩ := hrel
      clear HO2 HV2 hxx em em' ek ek' ew ew'
      obtain ⟨es3, hes3, hes4⟩ := HV3.out.im
      have HES3 := Aside0.mk hes3
      have HES4 := Aside0.mk hes4
      have hnl := HN.out
      have hnb := HI1.out.2.1
      clear hes3 hes4
      by_cases hj : jj < n
      ·have c0 : decide ((jj : Int) < (n : Int)) = true := decide_eq_true (by omega)
       have c1 : decide (jj < n) = true := decide_eq_true hj
       have hq1 : q.take (jj + 1) = q.take jj ++ [rd q (jj : Int)] := by
        rw [List.take_add_one, List.getElem?_eq_getElem (by omega)]
        simp [rd, show jj < q.length by omega]
       obtain ⟨x, hx⟩ : ∃ x, x = rd q (jj : Int) := ⟨_, rfl⟩
       obtain ⟨ad1, e1, hx1⟩ := Kd.at_int HI1.out (jj : Int) (by omega) (by omega)
       rw [← hx] at hq1 hx1
       simp only [Int.toNat_natCast] at hx1
       replace hx1 := pw_cell_below HV3.out.bel hx1
       have HQ1 := Aside0.mk hq1
       have HJJ := Aside0.mk hj
       have d0 : (0 ≤ (jj : Int)) = True := eq_true (by omega)
       have d1 : ((jj : Int) < (n : Int)) = True := eq_true (by omega)
       have ej : wrap64 ((jj : Int) + 1) = ((jj + 1 : Nat) : Int) := wone (by omega)
       have ej' : IntKind.i64.wrap ((jj : Int) + 1) = ((jj + 1 : Nat) : Int) := by rw [wr64', ej]
       subst e1
       clear hq1 hx hnl hnb hj
       go_wp2_with ((with_reducible refine wpList_im_put (o := ⟨none, .mapUpdate 53 _ _ _, _, _, _, _⟩) rfl _ _ _ (Or.inr rfl) Try.underlying53 Try.underlying3 _ (.bool true) HES3.out rfl rfl rfl ?_); intro w17 h1 g1; have HV4 := Aside0.mk (HV3.out.put HES4.out h1 g1); have HO4 := Aside0.mk (Kd.R_grown HO3.out g1 (fun k hk e => hk (by injection e))); clear h1 g1)
       go_roundg (n - (jj + 1))
       case measure => have := HJ.out; have := HJJ.out; omega
       case rel => exact ⟨jj + 1, rfl, ⟨by have := HJ.out; have := HJJ.out; omega⟩, HO4, ⟨by rw [HQ1.out, ← List.append_assoc]; exact HV4.out⟩⟩
      ·have c0 : decide ((jj : Int) < (n : Int)) = false := decide_eq_false (by omega)
       have c1 : decide (jj < n) = false := decide_eq_false hj
       have hqn : q.take jj = q := List.take_of_length_le (by have := HN.out; omega)
       rw [hqn] at HV3
       clear hj hqn hnl hnb
       obtain ⟨⟨em, em'⟩, ek, ek'⟩ := HEK.out
       go_wp2
       go_roundg (l0.length - (kk + 1))
       case measure => have := HK.out; have := HKK.out; omega
       case rel => exact ⟨kk + 1, _, _, rfl, ⟨by have := HK.out; have := HKK.out; omega⟩, HO3, HV3, ⟨by rw [HMK.out, List.append_assoc]; exact HE2.out.1, by rw [List.length_append]; exact Nat.succ_le_succ HE2.out.2⟩⟩
    ·rw [lvGo, if_neg hin] at HE1
     rw [decide_eq_false hin] at hget
     have HGET := Aside0.mk hget
     have HE2 := Aside0.mk HE1
     have hkk := hlt
     have HKK := Aside0.mk hkk
     clear hget HE1 hin hmlt hlt HE hkk
     obtain ⟨⟨em, em'⟩, ek, ek'⟩ := HEK.out
     obtain ⟨ew, ew'⟩ := HEW.out
     go_wp2_with (with_reducible refine wpList_im_look1v (o := ⟨_, .lookup 53 _ _ false, _, _, _, _⟩) rfl _ _ rfl Try.underlying53 Try.underlying3 (hz4 _) _ _ HGET.out HES.out rfl rfl ?_)
     go_roundg (l0.length - (kk + 1))
     case measure => have := HK.out; have := HKK.out; omega
     case rel => exact ⟨kk + 1, _, _, rfl, ⟨by have := HK.out; have := HKK.out; omega⟩, HO, HV, ⟨by rw [HMK.out]; exact HE2.out.1, by have := HE2.out.2; omega⟩⟩
   ·have b0 : decide ((kk : Int) < (l0.length : Int)) = false := decide_eq_false (by omega)
    have b1 : decide (kk < l0.length) = false := decide_eq_false hlt
    have hk : l0.length - kk = 0 := by omega
    have hE := HE.out
    rw [hk, lvGo, List.append_nil] at hE
    have HOL := Aside0.mk (show O.length < 1000 by have := HL.out; have := HK.out; omega)
    have HOE := Aside0.mk hE.1
    clear hlt hk hE HE
    go_wp2_with (go_at_call 38; refine (slices_Reverse_int_int.calls 1000 (fun g => g ≠ b) u2 O O.reverse w _ HV.out.bel HO.out (rev_any O HOL.out 1000 HOL.out)).mono ?_; rintro e w18 ⟨rfl, hO, hB, hK⟩; have HO5 := Aside0.mk hO; have HB5 := Aside0.mk hB; clear hO hB hK)
    go_ret
    exact ⟨_, rfl, by rw [← HH.out, ← HOE.out]; exact Kd.R_mono HO5.out (fun _ _ => trivial), HB5.out⟩


/-! ### fullerlaw10_awake: function 9 -/
def fullerlaw10_awake.f (k : Nat)  : Option (Bool) := (some (([(⟨2, ([] : List Int), (([3, 2] : List Int))⟩ : S35), (⟨1, ([] : List Int), (([2] : List Int))⟩ : S35), (⟨3, ([] : List Int), (([5] : List Int))⟩ : S35), (⟨12, (([0, 0] : List Int)), ([] : List Int)⟩ : S35)] : List (S35)) : List (S35))).bind fun y269 => ((graph_Inputs.f y269).bind fun bt272 => ((graph_Check.f y269).bind fun t276 => (if t276 = true then ((graph_Check.f ([] : List (S35))).bind fun t277 => (if t277 = true then (none) else ((graph_Arity.f 43).bind fun t278 => (if t278 = 2 then ((graph_Arity.f 99).bind fun t279 => (if t279 = (-1) then ((graph_Params.f k y269).bind fun t280 => ((fullerref02_Same.f k t280 (([3] : List Int))).bind fun t286 => (if t286 = true then ((fullerref02_Same.f k bt272.1 (([2] : List Int))).bind fun t290 => (if t290 = true then (if bt272.2 = true then ((graph_Uses.f k y269 0).bind fun t291 => ((fullerref02_Same.f k t291 (([3, 3] : List Int))).bind fun t297 => (if t297 = true then ((graph_Live.f y269).bind fun t298 => ((fullerref02_Same.f k t298 (([0, 3] : List Int))).bind fun t304 => (if t304 = true then (some true) else (none)))) else (none)))) else (none)) else (none))) else (none)))) else (none))) else (none))))) else (none))))
theorem fullerlaw10_awake.mono : ∀ k, LeO (fullerlaw10_awake.f k ) (fullerlaw10_awake.f (k + 1) ) := by
 intro  k
 unfold fullerlaw10_awake.f
 repeat' first
   | (with_reducible exact fullerref02_Same.mono _ _ _)
   | (with_reducible exact graph_Params.mono _ _)
   | (with_reducible exact graph_Uses.mono _ _ _)
   | (with_reducible exact LeO.refl _)
   | (with_reducible exact LeO.none _)
   | (with_reducible refine LeO.ite ?_ ?_)
   | (with_reducible refine LeO.bind ?_ (fun _ => ?_))
   | exact fullerref02_Same.mono _ _ _
   | exact graph_Params.mono _ _
   | exact graph_Uses.mono _ _ _
   | exact LeO.none _
   | refine LeO.ite ?_ ?_
   | refine LeO.bind ?_ (fun _ => ?_)
set_option maxHeartbeats 8000000 in
set_option maxRecDepth 100000 in
theorem fullerlaw10_awake.calls (k : Nat)  (r : Bool) (w : World) (h : fullerlaw10_awake.f k  = some r) :
  Calls Try.prog 9 #[] w fun e w' => e = .returned (.bool r) ∧ Below w.heap.size w w' := by
 have hu35 := Try.underlying35
 have HB := Aside0.mk (Below.refl w.heap.size w)
 have H : ((some (([(⟨2, ([] : List Int), (([3, 2] : List Int))⟩ : S35), (⟨1, ([] : List Int), (([2] : List Int))⟩ : S35), (⟨3, ([] : List Int), (([5] : List Int))⟩ : S35), (⟨12, (([0, 0] : List Int)), ([] : List Int)⟩ : S35)] : List (S35)) : List (S35))).bind fun y269 => ((graph_Inputs.f y269).bind fun bt272 => ((graph_Check.f y269).bind fun t276 => (if t276 = true then ((graph_Check.f ([] : List (S35))).bind fun t277 => (if t277 = true then (none) else ((graph_Arity.f 43).bind fun t278 => (if t278 = 2 then ((graph_Arity.f 99).bind fun t279 => (if t279 = (-1) then ((graph_Params.f k y269).bind fun t280 => ((fullerref02_Same.f k t280 (([3] : List Int))).bind fun t286 => (if t286 = true then ((fullerref02_Same.f k bt272.1 (([2] : List Int))).bind fun t290 => (if t290 = true then (if bt272.2 = true then ((graph_Uses.f k y269 0).bind fun t291 => ((fullerref02_Same.f k t291 (([3, 3] : List Int))).bind fun t297 => (if t297 = true then ((graph_Live.f y269).bind fun t298 => ((fullerref02_Same.f k t298 (([0, 3] : List Int))).bind fun t304 => (if t304 = true then (some true) else (none)))) else (none)))) else (none)) else (none))) else (none)))) else (none))) else (none))))) else (none))))) = some r := h
 clear h
 obtain ⟨y257, hy257⟩ : ∃ y_ : List Int, y_ = (([3, 2] : List Int)) := ⟨_, rfl⟩
 replace H : ((some (([(⟨2, ([] : List Int), y257⟩ : S35), (⟨1, ([] : List Int), (([2] : List Int))⟩ : S35), (⟨3, ([] : List Int), (([5] : List Int))⟩ : S35), (⟨12, (([0, 0] : List Int)), ([] : List Int)⟩ : S35)] : List (S35)) : List (S35))).bind fun y269 => ((graph_Inputs.f y269).bind fun bt272 => ((graph_Check.f y269).bind fun t276 => (if t276 = true then ((graph_Check.f ([] : List (S35))).bind fun t277 => (if t277 = true then (none) else ((graph_Arity.f 43).bind fun t278 => (if t278 = 2 then ((graph_Arity.f 99).bind fun t279 => (if t279 = (-1) then ((graph_Params.f k y269).bind fun t280 => ((fullerref02_Same.f k t280 (([3] : List Int))).bind fun t286 => (if t286 = true then ((fullerref02_Same.f k bt272.1 (([2] : List Int))).bind fun t290 => (if t290 = true then (if bt272.2 = true then ((graph_Uses.f k y269 0).bind fun t291 => ((fullerref02_Same.f k t291 (([3, 3] : List Int))).bind fun t297 => (if t297 = true then ((graph_Live.f y269).bind fun t298 => ((fullerref02_Same.f k t298 (([0, 3] : List Int))).bind fun t304 => (if t304 = true then (some true) else (none)))) else (none)))) else (none)) else (none))) else (none)))) else (none))) else (none))))) else (none))))) = some r := by first | (rw [hy257]; with_reducible exact H) | (have H2_ := (Option.bind_some _ _).symm.trans H; rw [hy257]; with_reducible exact H2_) | (have H2_ := (Option.bind_some _ _).symm.trans H; with_reducible exact H2_) | with_reducible exact H | (rw [hy257]; exact H) | exact H
 have Ny257 := Aside0.mk hy257
 clear hy257
 obtain ⟨y260, hy260⟩ : ∃ y_ : List Int, y_ = (([2] : List Int)) := ⟨_, rfl⟩
 replace H : ((some (([(⟨2, ([] : List Int), y257⟩ : S35), (⟨1, ([] : List Int), y260⟩ : S35), (⟨3, ([] : List Int), (([5] : List Int))⟩ : S35), (⟨12, (([0, 0] : List Int)), ([] : List Int)⟩ : S35)] : List (S35)) : List (S35))).bind fun y269 => ((graph_Inputs.f y269).bind fun bt272 => ((graph_Check.f y269).bind fun t276 => (if t276 = true then ((graph_Check.f ([] : List (S35))).bind fun t277 => (if t277 = true then (none) else ((graph_Arity.f 43).bind fun t278 => (if t278 = 2 then ((graph_Arity.f 99).bind fun t279 => (if t279 = (-1) then ((graph_Params.f k y269).bind fun t280 => ((fullerref02_Same.f k t280 (([3] : List Int))).bind fun t286 => (if t286 = true then ((fullerref02_Same.f k bt272.1 (([2] : List Int))).bind fun t290 => (if t290 = true then (if bt272.2 = true then ((graph_Uses.f k y269 0).bind fun t291 => ((fullerref02_Same.f k t291 (([3, 3] : List Int))).bind fun t297 => (if t297 = true then ((graph_Live.f y269).bind fun t298 => ((fullerref02_Same.f k t298 (([0, 3] : List Int))).bind fun t304 => (if t304 = true then (some true) else (none)))) else (none)))) else (none)) else (none))) else (none)))) else (none))) else (none))))) else (none))))) = some r := by first | (rw [hy260]; with_reducible exact H) | (have H2_ := (Option.bind_some _ _).symm.trans H; rw [hy260]; with_reducible exact H2_) | (have H2_ := (Option.bind_some _ _).symm.trans H; with_reducible exact H2_) | with_reducible exact H | (rw [hy260]; exact H) | exact H
 have Ny260 := Aside0.mk hy260
 clear hy260
 obtain ⟨y263, hy263⟩ : ∃ y_ : List Int, y_ = (([5] : List Int)) := ⟨_, rfl⟩
 replace H : ((some (([(⟨2, ([] : List Int), y257⟩ : S35), (⟨1, ([] : List Int), y260⟩ : S35), (⟨3, ([] : List Int), y263⟩ : S35), (⟨12, (([0, 0] : List Int)), ([] : List Int)⟩ : S35)] : List (S35)) : List (S35))).bind fun y269 => ((graph_Inputs.f y269).bind fun bt272 => ((graph_Check.f y269).bind fun t276 => (if t276 = true then ((graph_Check.f ([] : List (S35))).bind fun t277 => (if t277 = true then (none) else ((graph_Arity.f 43).bind fun t278 => (if t278 = 2 then ((graph_Arity.f 99).bind fun t279 => (if t279 = (-1) then ((graph_Params.f k y269).bind fun t280 => ((fullerref02_Same.f k t280 (([3] : List Int))).bind fun t286 => (if t286 = true then ((fullerref02_Same.f k bt272.1 (([2] : List Int))).bind fun t290 => (if t290 = true then (if bt272.2 = true then ((graph_Uses.f k y269 0).bind fun t291 => ((fullerref02_Same.f k t291 (([3, 3] : List Int))).bind fun t297 => (if t297 = true then ((graph_Live.f y269).bind fun t298 => ((fullerref02_Same.f k t298 (([0, 3] : List Int))).bind fun t304 => (if t304 = true then (some true) else (none)))) else (none)))) else (none)) else (none))) else (none)))) else (none))) else (none))))) else (none))))) = some r := by first | (rw [hy263]; with_reducible exact H) | (have H2_ := (Option.bind_some _ _).symm.trans H; rw [hy263]; with_reducible exact H2_) | (have H2_ := (Option.bind_some _ _).symm.trans H; with_reducible exact H2_) | with_reducible exact H | (rw [hy263]; exact H) | exact H
 have Ny263 := Aside0.mk hy263
 clear hy263
 obtain ⟨y266, hy266⟩ : ∃ y_ : List Int, y_ = (([0, 0] : List Int)) := ⟨_, rfl⟩
 replace H : ((some (([(⟨2, ([] : List Int), y257⟩ : S35), (⟨1, ([] : List Int), y260⟩ : S35), (⟨3, ([] : List Int), y263⟩ : S35), (⟨12, y266, ([] : List Int)⟩ : S35)] : List (S35)) : List (S35))).bind fun y269 => ((graph_Inputs.f y269).bind fun bt272 => ((graph_Check.f y269).bind fun t276 => (if t276 = true then ((graph_Check.f ([] : List (S35))).bind fun t277 => (if t277 = true then (none) else ((graph_Arity.f 43).bind fun t278 => (if t278 = 2 then ((graph_Arity.f 99).bind fun t279 => (if t279 = (-1) then ((graph_Params.f k y269).bind fun t280 => ((fullerref02_Same.f k t280 (([3] : List Int))).bind fun t286 => (if t286 = true then ((fullerref02_Same.f k bt272.1 (([2] : List Int))).bind fun t290 => (if t290 = true then (if bt272.2 = true then ((graph_Uses.f k y269 0).bind fun t291 => ((fullerref02_Same.f k t291 (([3, 3] : List Int))).bind fun t297 => (if t297 = true then ((graph_Live.f y269).bind fun t298 => ((fullerref02_Same.f k t298 (([0, 3] : List Int))).bind fun t304 => (if t304 = true then (some true) else (none)))) else (none)))) else (none)) else (none))) else (none)))) else (none))) else (none))))) else (none))))) = some r := by first | (rw [hy266]; with_reducible exact H) | (have H2_ := (Option.bind_some _ _).symm.trans H; rw [hy266]; with_reducible exact H2_) | (have H2_ := (Option.bind_some _ _).symm.trans H; with_reducible exact H2_) | with_reducible exact H | (rw [hy266]; exact H) | exact H
 have Ny266 := Aside0.mk hy266
 clear hy266
 obtain ⟨y269, hy269⟩ : ∃ y_ : List (S35), y_ = (([(⟨2, ([] : List Int), y257⟩ : S35), (⟨1, ([] : List Int), y260⟩ : S35), (⟨3, ([] : List Int), y263⟩ : S35), (⟨12, y266, ([] : List Int)⟩ : S35)] : List (S35))) := ⟨_, rfl⟩
 replace H : ((graph_Inputs.f y269).bind fun bt272 => ((graph_Check.f y269).bind fun t276 => (if t276 = true then ((graph_Check.f ([] : List (S35))).bind fun t277 => (if t277 = true then (none) else ((graph_Arity.f 43).bind fun t278 => (if t278 = 2 then ((graph_Arity.f 99).bind fun t279 => (if t279 = (-1) then ((graph_Params.f k y269).bind fun t280 => ((fullerref02_Same.f k t280 (([3] : List Int))).bind fun t286 => (if t286 = true then ((fullerref02_Same.f k bt272.1 (([2] : List Int))).bind fun t290 => (if t290 = true then (if bt272.2 = true then ((graph_Uses.f k y269 0).bind fun t291 => ((fullerref02_Same.f k t291 (([3, 3] : List Int))).bind fun t297 => (if t297 = true then ((graph_Live.f y269).bind fun t298 => ((fullerref02_Same.f k t298 (([0, 3] : List Int))).bind fun t304 => (if t304 = true then (some true) else (none)))) else (none)))) else (none)) else (none))) else (none)))) else (none))) else (none))))) else (none)))) = some r := by first | (rw [hy269]; with_reducible exact H) | (have H2_ := (Option.bind_some _ _).symm.trans H; rw [hy269]; with_reducible exact H2_) | (have H2_ := (Option.bind_some _ _).symm.trans H; with_reducible exact H2_) | with_reducible exact H | (rw [hy269]; exact H) | exact H
 have Ny269 := Aside0.mk hy269
 clear hy269
 replace H := Option.bind_eq_some_iff.mp H
 obtain ⟨⟨t272, t273⟩, A10, H⟩ := H
 replace H : ((graph_Check.f y269).bind fun t276 => (if t276 = true then ((graph_Check.f ([] : List (S35))).bind fun t277 => (if t277 = true then (none) else ((graph_Arity.f 43).bind fun t278 => (if t278 = 2 then ((graph_Arity.f 99).bind fun t279 => (if t279 = (-1) then ((graph_Params.f k y269).bind fun t280 => ((fullerref02_Same.f k t280 (([3] : List Int))).bind fun t286 => (if t286 = true then ((fullerref02_Same.f k t272 (([2] : List Int))).bind fun t290 => (if t290 = true then (if t273 = true then ((graph_Uses.f k y269 0).bind fun t291 => ((fullerref02_Same.f k t291 (([3, 3] : List Int))).bind fun t297 => (if t297 = true then ((graph_Live.f y269).bind fun t298 => ((fullerref02_Same.f k t298 (([0, 3] : List Int))).bind fun t304 => (if t304 = true then (some true) else (none)))) else (none)))) else (none)) else (none))) else (none)))) else (none))) else (none))))) else (none))) = some r := H
 have A1 := Aside0.mk A10
 clear A10
 replace H := Option.bind_eq_some_iff.mp H
 obtain ⟨t276, A20, H⟩ := H
 replace H : (if t276 = true then ((graph_Check.f ([] : List (S35))).bind fun t277 => (if t277 = true then (none) else ((graph_Arity.f 43).bind fun t278 => (if t278 = 2 then ((graph_Arity.f 99).bind fun t279 => (if t279 = (-1) then ((graph_Params.f k y269).bind fun t280 => ((fullerref02_Same.f k t280 (([3] : List Int))).bind fun t286 => (if t286 = true then ((fullerref02_Same.f k t272 (([2] : List Int))).bind fun t290 => (if t290 = true then (if t273 = true then ((graph_Uses.f k y269 0).bind fun t291 => ((fullerref02_Same.f k t291 (([3, 3] : List Int))).bind fun t297 => (if t297 = true then ((graph_Live.f y269).bind fun t298 => ((fullerref02_Same.f k t298 (([0, 3] : List Int))).bind fun t304 => (if t304 = true then (some true) else (none)))) else (none)))) else (none)) else (none))) else (none)))) else (none))) else (none))))) else (none)) = some r := H
 have A2 := Aside0.mk A20
 clear A20
 by_cases c3 : t276 = true
 ·subst c3
  have H1 : ((graph_Check.f ([] : List (S35))).bind fun t277 => (if t277 = true then (none) else ((graph_Arity.f 43).bind fun t278 => (if t278 = 2 then ((graph_Arity.f 99).bind fun t279 => (if t279 = (-1) then ((graph_Params.f k y269).bind fun t280 => ((fullerref02_Same.f k t280 (([3] : List Int))).bind fun t286 => (if t286 = true then ((fullerref02_Same.f k t272 (([2] : List Int))).bind fun t290 => (if t290 = true then (if t273 = true then ((graph_Uses.f k y269 0).bind fun t291 => ((fullerref02_Same.f k t291 (([3, 3] : List Int))).bind fun t297 => (if t297 = true then ((graph_Live.f y269).bind fun t298 => ((fullerref02_Same.f k t298 (([0, 3] : List Int))).bind fun t304 => (if t304 = true then (some true) else (none)))) else (none)))) else (none)) else (none))) else (none)))) else (none))) else (none))))) = some r := by rw [if_pos rfl] at H; exact H
  clear H
  have H := H1
  clear H1
  replace H := Option.bind_eq_some_iff.mp H
  obtain ⟨t277, A40, H⟩ := H
  replace H : (if t277 = true then (none) else ((graph_Arity.f 43).bind fun t278 => (if t278 = 2 then ((graph_Arity.f 99).bind fun t279 => (if t279 = (-1) then ((graph_Params.f k y269).bind fun t280 => ((fullerref02_Same.f k t280 (([3] : List Int))).bind fun t286 => (if t286 = true then ((fullerref02_Same.f k t272 (([2] : List Int))).bind fun t290 => (if t290 = true then (if t273 = true then ((graph_Uses.f k y269 0).bind fun t291 => ((fullerref02_Same.f k t291 (([3, 3] : List Int))).bind fun t297 => (if t297 = true then ((graph_Live.f y269).bind fun t298 => ((fullerref02_Same.f k t298 (([0, 3] : List Int))).bind fun t304 => (if t304 = true then (some true) else (none)))) else (none)))) else (none)) else (none))) else (none)))) else (none))) else (none)))) = some r := H
  have A4 := Aside0.mk A40
  clear A40
  by_cases c5 : t277 = true
  ·subst c5
   have H1 : (none) = some r := by rw [if_pos rfl] at H; exact H
   clear H
   have H := H1
   clear H1
   exact absurd H (by simp)
  ·replace c5 := Bool.eq_false_iff.mpr c5
   subst c5
   have H1 : ((graph_Arity.f 43).bind fun t278 => (if t278 = 2 then ((graph_Arity.f 99).bind fun t279 => (if t279 = (-1) then ((graph_Params.f k y269).bind fun t280 => ((fullerref02_Same.f k t280 (([3] : List Int))).bind fun t286 => (if t286 = true then ((fullerref02_Same.f k t272 (([2] : List Int))).bind fun t290 => (if t290 = true then (if t273 = true then ((graph_Uses.f k y269 0).bind fun t291 => ((fullerref02_Same.f k t291 (([3, 3] : List Int))).bind fun t297 => (if t297 = true then ((graph_Live.f y269).bind fun t298 => ((fullerref02_Same.f k t298 (([0, 3] : List Int))).bind fun t304 => (if t304 = true then (some true) else (none)))) else (none)))) else (none)) else (none))) else (none)))) else (none))) else (none))) = some r := by rw [if_neg (show ¬ (false = true) by decide)] at H; exact H
   clear H
   have H := H1
   clear H1
   replace H := Option.bind_eq_some_iff.mp H
   obtain ⟨t278, A60, H⟩ := H
   replace H : (if t278 = 2 then ((graph_Arity.f 99).bind fun t279 => (if t279 = (-1) then ((graph_Params.f k y269).bind fun t280 => ((fullerref02_Same.f k t280 (([3] : List Int))).bind fun t286 => (if t286 = true then ((fullerref02_Same.f k t272 (([2] : List Int))).bind fun t290 => (if t290 = true then (if t273 = true then ((graph_Uses.f k y269 0).bind fun t291 => ((fullerref02_Same.f k t291 (([3, 3] : List Int))).bind fun t297 => (if t297 = true then ((graph_Live.f y269).bind fun t298 => ((fullerref02_Same.f k t298 (([0, 3] : List Int))).bind fun t304 => (if t304 = true then (some true) else (none)))) else (none)))) else (none)) else (none))) else (none)))) else (none))) else (none)) = some r := H
   have A6 := Aside0.mk A60
   clear A60
   by_cases c7 : t278 = 2
   ·rw [if_pos c7] at H
    obtain ⟨c7b0, c7b1⟩ := eqT_ c7
    clear c7
    replace H := Option.bind_eq_some_iff.mp H
    obtain ⟨t279, A80, H⟩ := H
    replace H : (if t279 = (-1) then ((graph_Params.f k y269).bind fun t280 => ((fullerref02_Same.f k t280 (([3] : List Int))).bind fun t286 => (if t286 = true then ((fullerref02_Same.f k t272 (([2] : List Int))).bind fun t290 => (if t290 = true then (if t273 = true then ((graph_Uses.f k y269 0).bind fun t291 => ((fullerref02_Same.f k t291 (([3, 3] : List Int))).bind fun t297 => (if t297 = true then ((graph_Live.f y269).bind fun t298 => ((fullerref02_Same.f k t298 (([0, 3] : List Int))).bind fun t304 => (if t304 = true then (some true) else (none)))) else (none)))) else (none)) else (none))) else (none)))) else (none)) = some r := H
    have A8 := Aside0.mk A80
    clear A80
    by_cases c9 : t279 = (-1)
    ·rw [if_pos c9] at H
     obtain ⟨c9b0, c9b1⟩ := eqT_ c9
     clear c9
     replace H := Option.bind_eq_some_iff.mp H
     obtain ⟨t280, A100, H⟩ := H
     replace H : ((fullerref02_Same.f k t280 (([3] : List Int))).bind fun t286 => (if t286 = true then ((fullerref02_Same.f k t272 (([2] : List Int))).bind fun t290 => (if t290 = true then (if t273 = true then ((graph_Uses.f k y269 0).bind fun t291 => ((fullerref02_Same.f k t291 (([3, 3] : List Int))).bind fun t297 => (if t297 = true then ((graph_Live.f y269).bind fun t298 => ((fullerref02_Same.f k t298 (([0, 3] : List Int))).bind fun t304 => (if t304 = true then (some true) else (none)))) else (none)))) else (none)) else (none))) else (none))) = some r := H
     have A10 := Aside0.mk A100
     clear A100
     obtain ⟨y283, hy283⟩ : ∃ y_ : List Int, y_ = (([3] : List Int)) := ⟨_, rfl⟩
     replace H : ((fullerref02_Same.f k t280 y283).bind fun t286 => (if t286 = true then ((fullerref02_Same.f k t272 (([2] : List Int))).bind fun t290 => (if t290 = true then (if t273 = true then ((graph_Uses.f k y269 0).bind fun t291 => ((fullerref02_Same.f k t291 (([3, 3] : List Int))).bind fun t297 => (if t297 = true then ((graph_Live.f y269).bind fun t298 => ((fullerref02_Same.f k t298 (([0, 3] : List Int))).bind fun t304 => (if t304 = true then (some true) else (none)))) else (none)))) else (none)) else (none))) else (none))) = some r := by first | (rw [hy283]; with_reducible exact H) | (have H2_ := (Option.bind_some _ _).symm.trans H; rw [hy283]; with_reducible exact H2_) | (have H2_ := (Option.bind_some _ _).symm.trans H; with_reducible exact H2_) | with_reducible exact H | (rw [hy283]; exact H) | exact H
     have Ny283 := Aside0.mk hy283
     clear hy283
     replace H := Option.bind_eq_some_iff.mp H
     obtain ⟨t286, A110, H⟩ := H
     replace H : (if t286 = true then ((fullerref02_Same.f k t272 (([2] : List Int))).bind fun t290 => (if t290 = true then (if t273 = true then ((graph_Uses.f k y269 0).bind fun t291 => ((fullerref02_Same.f k t291 (([3, 3] : List Int))).bind fun t297 => (if t297 = true then ((graph_Live.f y269).bind fun t298 => ((fullerref02_Same.f k t298 (([0, 3] : List Int))).bind fun t304 => (if t304 = true then (some true) else (none)))) else (none)))) else (none)) else (none))) else (none)) = some r := H
     have A11 := Aside0.mk A110
     clear A110
     by_cases c12 : t286 = true
     ·subst c12
      have H1 : ((fullerref02_Same.f k t272 (([2] : List Int))).bind fun t290 => (if t290 = true then (if t273 = true then ((graph_Uses.f k y269 0).bind fun t291 => ((fullerref02_Same.f k t291 (([3, 3] : List Int))).bind fun t297 => (if t297 = true then ((graph_Live.f y269).bind fun t298 => ((fullerref02_Same.f k t298 (([0, 3] : List Int))).bind fun t304 => (if t304 = true then (some true) else (none)))) else (none)))) else (none)) else (none))) = some r := by rw [if_pos rfl] at H; exact H
      clear H
      have H := H1
      clear H1
      obtain ⟨y287, hy287⟩ : ∃ y_ : List Int, y_ = (([2] : List Int)) := ⟨_, rfl⟩
      replace H : ((fullerref02_Same.f k t272 y287).bind fun t290 => (if t290 = true then (if t273 = true then ((graph_Uses.f k y269 0).bind fun t291 => ((fullerref02_Same.f k t291 (([3, 3] : List Int))).bind fun t297 => (if t297 = true then ((graph_Live.f y269).bind fun t298 => ((fullerref02_Same.f k t298 (([0, 3] : List Int))).bind fun t304 => (if t304 = true then (some true) else (none)))) else (none)))) else (none)) else (none))) = some r := by first | (rw [hy287]; with_reducible exact H) | (have H2_ := (Option.bind_some _ _).symm.trans H; rw [hy287]; with_reducible exact H2_) | (have H2_ := (Option.bind_some _ _).symm.trans H; with_reducible exact H2_) | with_reducible exact H | (rw [hy287]; exact H) | exact H
      have Ny287 := Aside0.mk hy287
      clear hy287
      replace H := Option.bind_eq_some_iff.mp H
      obtain ⟨t290, A130, H⟩ := H
      replace H : (if t290 = true then (if t273 = true then ((graph_Uses.f k y269 0).bind fun t291 => ((fullerref02_Same.f k t291 (([3, 3] : List Int))).bind fun t297 => (if t297 = true then ((graph_Live.f y269).bind fun t298 => ((fullerref02_Same.f k t298 (([0, 3] : List Int))).bind fun t304 => (if t304 = true then (some true) else (none)))) else (none)))) else (none)) else (none)) = some r := H
      have A13 := Aside0.mk A130
      clear A130
      by_cases c14 : t290 = true
      ·subst c14
       have H1 : (if t273 = true then ((graph_Uses.f k y269 0).bind fun t291 => ((fullerref02_Same.f k t291 (([3, 3] : List Int))).bind fun t297 => (if t297 = true then ((graph_Live.f y269).bind fun t298 => ((fullerref02_Same.f k t298 (([0, 3] : List Int))).bind fun t304 => (if t304 = true then (some true) else (none)))) else (none)))) else (none)) = some r := by rw [if_pos rfl] at H; exact H
       clear H
       have H := H1
       clear H1
       by_cases c15 : t273 = true
       ·subst c15
        have H1 : ((graph_Uses.f k y269 0).bind fun t291 => ((fullerref02_Same.f k t291 (([3, 3] : List Int))).bind fun t297 => (if t297 = true then ((graph_Live.f y269).bind fun t298 => ((fullerref02_Same.f k t298 (([0, 3] : List Int))).bind fun t304 => (if t304 = true then (some true) else (none)))) else (none)))) = some r := by rw [if_pos rfl] at H; exact H
        clear H
        have H := H1
        clear H1
        replace H := Option.bind_eq_some_iff.mp H
        obtain ⟨t291, A160, H⟩ := H
        replace H : ((fullerref02_Same.f k t291 (([3, 3] : List Int))).bind fun t297 => (if t297 = true then ((graph_Live.f y269).bind fun t298 => ((fullerref02_Same.f k t298 (([0, 3] : List Int))).bind fun t304 => (if t304 = true then (some true) else (none)))) else (none))) = some r := H
        have A16 := Aside0.mk A160
        clear A160
        obtain ⟨y294, hy294⟩ : ∃ y_ : List Int, y_ = (([3, 3] : List Int)) := ⟨_, rfl⟩
        replace H : ((fullerref02_Same.f k t291 y294).bind fun t297 => (if t297 = true then ((graph_Live.f y269).bind fun t298 => ((fullerref02_Same.f k t298 (([0, 3] : List Int))).bind fun t304 => (if t304 = true then (some true) else (none)))) else (none))) = some r := by first | (rw [hy294]; with_reducible exact H) | (have H2_ := (Option.bind_some _ _).symm.trans H; rw [hy294]; with_reducible exact H2_) | (have H2_ := (Option.bind_some _ _).symm.trans H; with_reducible exact H2_) | with_reducible exact H | (rw [hy294]; exact H) | exact H
        have Ny294 := Aside0.mk hy294
        clear hy294
        replace H := Option.bind_eq_some_iff.mp H
        obtain ⟨t297, A170, H⟩ := H
        replace H : (if t297 = true then ((graph_Live.f y269).bind fun t298 => ((fullerref02_Same.f k t298 (([0, 3] : List Int))).bind fun t304 => (if t304 = true then (some true) else (none)))) else (none)) = some r := H
        have A17 := Aside0.mk A170
        clear A170
        by_cases c18 : t297 = true
        ·subst c18
         have H1 : ((graph_Live.f y269).bind fun t298 => ((fullerref02_Same.f k t298 (([0, 3] : List Int))).bind fun t304 => (if t304 = true then (some true) else (none)))) = some r := by rw [if_pos rfl] at H; exact H
         clear H
         have H := H1
         clear H1
         replace H := Option.bind_eq_some_iff.mp H
         obtain ⟨t298, A190, H⟩ := H
         replace H : ((fullerref02_Same.f k t298 (([0, 3] : List Int))).bind fun t304 => (if t304 = true then (some true) else (none))) = some r := H
         have A19 := Aside0.mk A190
         clear A190
         obtain ⟨y301, hy301⟩ : ∃ y_ : List Int, y_ = (([0, 3] : List Int)) := ⟨_, rfl⟩
         replace H : ((fullerref02_Same.f k t298 y301).bind fun t304 => (if t304 = true then (some true) else (none))) = some r := by first | (rw [hy301]; with_reducible exact H) | (have H2_ := (Option.bind_some _ _).symm.trans H; rw [hy301]; with_reducible exact H2_) | (have H2_ := (Option.bind_some _ _).symm.trans H; with_reducible exact H2_) | with_reducible exact H | (rw [hy301]; exact H) | exact H
         have Ny301 := Aside0.mk hy301
         clear hy301
         replace H := Option.bind_eq_some_iff.mp H
         obtain ⟨t304, A200, H⟩ := H
         replace H : (if t304 = true then (some true) else (none)) = some r := H
         have A20 := Aside0.mk A200
         clear A200
         by_cases c21 : t304 = true
         ·subst c21
          have H1 : (some true) = some r := by rw [if_pos rfl] at H; exact H
          clear H
          have H := H1
          clear H1
          obtain rfl := Option.some.inj H
          go_enter Try.func9, Try.ntmps9
          go_wp2_with (first | ((with_reducible refine gate_dst (N := 4) rfl ?_); (try (refine gate_guard (by rfl) ?_; dsimp only)); refine Kd.R_lit (Kd.int .i64) _ 3 ?hg (N := 4) ?hd (xs := ([3, 2] : List Int)) (inner := [.int .i64 3, .int .i64 2]) (ok := fun _ => True) (okp := fun _ => True) ?hr ?hp (fun _ hk => hk) trivial (Below.refl _ _) (Nat.le_refl _) (by simp) ?_; (case hd => rfl); (case hg => rfl); (case hr => first | (go_simp; done) | (go_simp; rfl)); (case hp => exact (Reps.one (show Kd.M (Kd.int .i64) _ _ _ 3 [.int .i64 3] from rfl) (Reps.one (show Kd.M (Kd.int .i64) _ _ _ 2 [.int .i64 2] from rfl) (Reps.none _ _)))); intro v258 w22 ho23 hb hg_ hnew_; clear hg_ hnew_; (first | rw [← Ny257.out] at ho23 | (simp only [Int.reduceToNat] at ho23; rw [← Ny257.out] at ho23)); have HO259 := Aside0.mk (Kd.R_lower ho23 (below_size (bq0_ HB.out))); replace HB := Aside0.mk (below_step (bq0_ HB.out) hb); clear hb ho23; obtain ⟨Ao24, co24, eo24⟩ := Kd.R_slice HO259.out; subst eo24) | ((with_reducible refine gate_dst (N := 6) rfl ?_); (try (refine gate_guard (by rfl) ?_; dsimp only)); refine Kd.R_lit (Kd.int .i64) _ 3 ?hg (N := 6) ?hd (xs := ([2] : List Int)) (inner := [.int .i64 2]) (ok := fun _ => True) (okp := fun _ => True) ?hr ?hp (fun _ hk => hk) trivial (Below.refl _ _) (Nat.le_refl _) (by simp) ?_; (case hd => rfl); (case hg => rfl); (case hr => first | (go_simp; done) | (go_simp; rfl)); (case hp => exact (Reps.one (show Kd.M (Kd.int .i64) _ _ _ 2 [.int .i64 2] from rfl) (Reps.none _ _))); intro v261 w25 ho26 hb hg_ hnew_; clear hg_ hnew_; (first | rw [← Ny260.out] at ho26 | (simp only [Int.reduceToNat] at ho26; rw [← Ny260.out] at ho26)); have HO262 := Aside0.mk (Kd.R_lower (Kd.R_new' ho26 (Kd.R_lt (mvR_ HO259.out))) (below_size (bq0_ HB.out))); replace HO259 := Aside0.mk (Kd.R_elder' (mvR_ HO259.out) (Kd.R_base ho26) hb); replace HB := Aside0.mk (below_step (bq0_ HB.out) hb); clear hb ho26; obtain ⟨Ao27, co27, eo27⟩ := Kd.R_slice HO262.out; subst eo27) | ((with_reducible refine gate_dst (N := 8) rfl ?_); (try (refine gate_guard (by rfl) ?_; dsimp only)); refine Kd.R_lit (Kd.int .i64) _ 3 ?hg (N := 8) ?hd (xs := ([5] : List Int)) (inner := [.int .i64 5]) (ok := fun _ => True) (okp := fun _ => True) ?hr ?hp (fun _ hk => hk) trivial (Below.refl _ _) (Nat.le_refl _) (by simp) ?_; (case hd => rfl); (case hg => rfl); (case hr => first | (go_simp; done) | (go_simp; rfl)); (case hp => exact (Reps.one (show Kd.M (Kd.int .i64) _ _ _ 5 [.int .i64 5] from rfl) (Reps.none _ _))); intro v264 w28 ho29 hb hg_ hnew_; clear hg_ hnew_; (first | rw [← Ny263.out] at ho29 | (simp only [Int.reduceToNat] at ho29; rw [← Ny263.out] at ho29)); have HO265 := Aside0.mk (Kd.R_lower (Kd.R_new' (Kd.R_new' ho29 (Kd.R_lt (mvR_ HO259.out))) (Kd.R_lt (mvR_ HO262.out))) (below_size (bq0_ HB.out))); replace HO259 := Aside0.mk (Kd.R_elder' (mvR_ HO259.out) (Kd.R_base ho29) hb); replace HO262 := Aside0.mk (Kd.R_elder' (mvR_ HO262.out) (Kd.R_base ho29) hb); replace HB := Aside0.mk (below_step (bq0_ HB.out) hb); clear hb ho29; obtain ⟨Ao30, co30, eo30⟩ := Kd.R_slice HO265.out; subst eo30) | ((with_reducible refine gate_dst (N := 10) rfl ?_); (try (refine gate_guard (by rfl) ?_; dsimp only)); refine Kd.R_lit (Kd.int .i64) _ 3 ?hg (N := 10) ?hd (xs := ([0, 0] : List Int)) (inner := [.int .i64 0, .int .i64 0]) (ok := fun _ => True) (okp := fun _ => True) ?hr ?hp (fun _ hk => hk) trivial (Below.refl _ _) (Nat.le_refl _) (by simp) ?_; (case hd => rfl); (case hg => rfl); (case hr => first | (go_simp; done) | (go_simp; rfl)); (case hp => exact (Reps.one (show Kd.M (Kd.int .i64) _ _ _ 0 [.int .i64 0] from rfl) (Reps.one (show Kd.M (Kd.int .i64) _ _ _ 0 [.int .i64 0] from rfl) (Reps.none _ _)))); intro v267 w31 ho32 hb hg_ hnew_; clear hg_ hnew_; (first | rw [← Ny266.out] at ho32 | (simp only [Int.reduceToNat] at ho32; rw [← Ny266.out] at ho32)); have HO268 := Aside0.mk (Kd.R_lower (Kd.R_new' (Kd.R_new' (Kd.R_new' ho32 (Kd.R_lt (mvR_ HO259.out))) (Kd.R_lt (mvR_ HO262.out))) (Kd.R_lt (mvR_ HO265.out))) (below_size (bq0_ HB.out))); replace HO259 := Aside0.mk (Kd.R_elder' (mvR_ HO259.out) (Kd.R_base ho32) hb); replace HO262 := Aside0.mk (Kd.R_elder' (mvR_ HO262.out) (Kd.R_base ho32) hb); replace HO265 := Aside0.mk (Kd.R_elder' (mvR_ HO265.out) (Kd.R_base ho32) hb); replace HB := Aside0.mk (below_step (bq0_ HB.out) hb); clear hb ho32; obtain ⟨Ao33, co33, eo33⟩ := Kd.R_slice HO268.out; subst eo33) | ((with_reducible refine gate_dst (N := 12) rfl ?_); (try (refine gate_guard (by rfl) ?_; dsimp only)); refine Kd.N_lit k35 _ 35 ?hg (N' := 12) ?hd (xs := ([(⟨2, ([] : List Int), y257⟩ : S35), (⟨1, ([] : List Int), y260⟩ : S35), (⟨3, ([] : List Int), y263⟩ : S35), (⟨12, y266, ([] : List Int)⟩ : S35)] : List (S35))) (inner := [.int .i64 2, .slice none 0 0, .slice Ao24 y257.length co24, .int .i64 1, .slice none 0 0, .slice Ao27 y260.length co27, .int .i64 3, .slice none 0 0, .slice Ao30 y263.length co30, .int .i64 12, .slice Ao33 y266.length co33, .slice none 0 0]) (ok := (fun _ => True)) (okp := (fun _ => True)) ?hr ?hp (fun _ hk => hk) ((show ∀ k_, w31.heap.size ≤ k_ → (fun _ => True) k_ from fun k_ hk => trivial) _ (Nat.le_refl _)) (Below.refl _ _) (Nat.le_refl _) (by simp) ?_; (case hd => rfl); (case hg => rfl); (case hr => first | (go_simp; done) | (go_simp; rfl)); (case hp => exact (Reps.c3 (show Kd.FK k35 _ _ (⟨2, ([] : List Int), y257⟩ : S35) [.int .i64 2, .slice none 0 0, .slice Ao24 y257.length co24] from (k35_mkF _ _ (⟨2, ([] : List Int), y257⟩ : S35) (Nat.le_refl _) (Kd.F_nil _ _ _) (Kd.R_reads' (Kd.R_mono (ok' := (fun _ => True)) (HO259.out) (fun k_ hk => trivial))).2.1 (Kd.R_F (Kd.R_mono (ok' := (fun _ => True)) (HO259.out) (fun k_ hk => trivial))))) (Reps.c3 (show Kd.FK k35 _ _ (⟨1, ([] : List Int), y260⟩ : S35) [.int .i64 1, .slice none 0 0, .slice Ao27 y260.length co27] from (k35_mkF _ _ (⟨1, ([] : List Int), y260⟩ : S35) (Nat.le_refl _) (Kd.F_nil _ _ _) (Kd.R_reads' (Kd.R_mono (ok' := (fun _ => True)) (HO262.out) (fun k_ hk => trivial))).2.1 (Kd.R_F (Kd.R_mono (ok' := (fun _ => True)) (HO262.out) (fun k_ hk => trivial))))) (Reps.c3 (show Kd.FK k35 _ _ (⟨3, ([] : List Int), y263⟩ : S35) [.int .i64 3, .slice none 0 0, .slice Ao30 y263.length co30] from (k35_mkF _ _ (⟨3, ([] : List Int), y263⟩ : S35) (Nat.le_refl _) (Kd.F_nil _ _ _) (Kd.R_reads' (Kd.R_mono (ok' := (fun _ => True)) (HO265.out) (fun k_ hk => trivial))).2.1 (Kd.R_F (Kd.R_mono (ok' := (fun _ => True)) (HO265.out) (fun k_ hk => trivial))))) (Reps.c3 (show Kd.FK k35 _ _ (⟨12, y266, ([] : List Int)⟩ : S35) [.int .i64 12, .slice Ao33 y266.length co33, .slice none 0 0] from (k35_mkF _ _ (⟨12, y266, ([] : List Int)⟩ : S35) (Kd.R_reads' (Kd.R_mono (ok' := (fun _ => True)) (HO268.out) (fun k_ hk => trivial))).2.1 (Kd.R_F (Kd.R_mono (ok' := (fun _ => True)) (HO268.out) (fun k_ hk => trivial))) (Nat.le_refl _) (Kd.F_nil _ _ _))) (Reps.none _ _)))))); intro v270 w34 ho35 hb hg_ hnew_; clear hg_ hnew_; (first | rw [← Ny269.out] at ho35 | (simp only [Int.reduceToNat] at ho35; rw [← Ny269.out] at ho35)); have HO271 := Aside0.mk (Kd.N_lower ho35 (below_size (bq0_ HB.out))); replace HB := Aside0.mk (below_step (bq0_ HB.out) hb); clear HO259 HO262 HO265 HO268 hb ho35; obtain ⟨Ao36, co36, eo36⟩ := Kd.N_slice HO271.out; subst eo36) | ((with_reducible refine gate_callee (f := 11) rfl ?_); refine gL_ (some 15) Try.func11 #[.slice Ao36 y269.length co36] ?_; (with_reducible refine (graph_Inputs.calls _ _ y269 t272 true _ ?side1 ?side2 A1.out).mono ?_); (case side1 => exact mvC_ ((Kd.N_reads' HO271.out).2.2)); (case side2 => exact (Kd.N_reads' HO271.out).2.1); rintro e w37 ⟨v274, rfl, ho0, hb⟩; refine ⟨_, rfl, ?_⟩; have HO275 := Aside0.mk (Kd.R_lower ho0 (below_size (bq0_ HB.out))); replace HO271 := Aside0.mk (Kd.N_elder' (mvN_ HO271.out) (Kd.R_base ho0) hb); replace HB := Aside0.mk (below_step (bq0_ HB.out) hb); (try clear hb); (try clear ho0)) | ((with_reducible refine gate_callee (f := 13) rfl ?_); refine gL_ (some 19) Try.func13 #[.slice Ao36 y269.length co36] ?_; (with_reducible refine (graph_Check.calls _ _ y269 true _ ?side1 ?side2 A2.out).mono ?_); (case side1 => exact mvC_ ((Kd.N_reads' HO271.out).2.2)); (case side2 => exact (Kd.N_reads' HO271.out).2.1); rintro e w38 ⟨rfl, hb⟩; refine ⟨_, rfl, ?_⟩; replace HO271 := Aside0.mk (Kd.N_below (mvN_ HO271.out) hb); replace HO275 := Aside0.mk (Kd.R_below (mvR_ HO275.out) hb); replace HB := Aside0.mk (below_step (bq0_ HB.out) hb); (try clear hb)) | (go_at_call 15; (with_reducible refine (graph_Arity.calls 43 t278 _ A6.out).mono ?_); rintro e w40 ⟨rfl, hb⟩; replace HO271 := Aside0.mk (Kd.N_below (mvN_ HO271.out) hb); replace HO275 := Aside0.mk (Kd.R_below (mvR_ HO275.out) hb); replace HB := Aside0.mk (below_step (bq0_ HB.out) hb); (try clear hb)) | (go_at_call 15; (with_reducible refine (graph_Arity.calls 99 t279 _ A8.out).mono ?_); rintro e w41 ⟨rfl, hb⟩; replace HO271 := Aside0.mk (Kd.N_below (mvN_ HO271.out) hb); replace HO275 := Aside0.mk (Kd.R_below (mvR_ HO275.out) hb); replace HB := Aside0.mk (below_step (bq0_ HB.out) hb); (try clear hb)) | (go_at_call 18; (with_reducible refine (graph_Params.calls k _ _ y269 t280 _ ?side1 ?side2 A10.out).mono ?_); (case side1 => exact mvC_ ((Kd.N_reads' HO271.out).2.2)); (case side2 => exact (Kd.N_reads' HO271.out).2.1); rintro e w42 ⟨v281, rfl, ho0, hb⟩; have HO282 := Aside0.mk (Kd.R_lower (Kd.R_new' ho0 (Kd.R_lt (mvR_ HO275.out))) (below_size (bq0_ HB.out))); replace HO271 := Aside0.mk (Kd.N_elder' (mvN_ HO271.out) (Kd.R_base ho0) hb); replace HO275 := Aside0.mk (Kd.R_elder' (mvR_ HO275.out) (Kd.R_base ho0) hb); replace HB := Aside0.mk (below_step (bq0_ HB.out) hb); (try clear hb); (try clear ho0)) | ((with_reducible refine gate_dst (N := 35) rfl ?_); (try (refine gate_guard (by rfl) ?_; dsimp only)); refine Kd.R_lit (Kd.int .i64) _ 3 ?hg (N := 35) ?hd (xs := ([3] : List Int)) (inner := [.int .i64 3]) (ok := fun _ => True) (okp := fun _ => True) ?hr ?hp (fun _ hk => hk) trivial (Below.refl _ _) (Nat.le_refl _) (by simp) ?_; (case hd => rfl); (case hg => rfl); (case hr => first | (go_simp; done) | (go_simp; rfl)); (case hp => exact (Reps.one (show Kd.M (Kd.int .i64) _ _ _ 3 [.int .i64 3] from rfl) (Reps.none _ _))); intro v284 w43 ho44 hb hg_ hnew_; clear hg_ hnew_; (first | rw [← Ny283.out] at ho44 | (simp only [Int.reduceToNat] at ho44; rw [← Ny283.out] at ho44)); have HO285 := Aside0.mk (Kd.R_lower (Kd.R_new' (Kd.R_new' ho44 (Kd.R_lt (mvR_ HO275.out))) (Kd.R_lt (mvR_ HO282.out))) (below_size (bq0_ HB.out))); replace HO271 := Aside0.mk (Kd.N_elder' (mvN_ HO271.out) (Kd.R_base ho44) hb); replace HO275 := Aside0.mk (Kd.R_elder' (mvR_ HO275.out) (Kd.R_base ho44) hb); replace HO282 := Aside0.mk (Kd.R_elder' (mvR_ HO282.out) (Kd.R_base ho44) hb); replace HB := Aside0.mk (below_step (bq0_ HB.out) hb); clear hb ho44; obtain ⟨Ao45, co45, eo45⟩ := Kd.R_slice HO282.out; subst eo45; obtain ⟨Ao46, co46, eo46⟩ := Kd.R_slice HO285.out; subst eo46) | (go_at_call 17; (with_reducible refine (fullerref02_Same.calls k _ _ t280 _ _ y283 true _ ?side1 ?side2 ?side3 ?side4 A11.out).mono ?_); (case side1 => exact mvC_ ((Kd.R_reads' HO282.out).2.2)); (case side2 => exact (Kd.R_reads' HO282.out).2.1); (case side3 => exact mvC_ ((Kd.R_reads' HO285.out).2.2)); (case side4 => exact (Kd.R_reads' HO285.out).2.1); rintro e w' ⟨rfl, ⟨nd, rfl⟩⟩) | ((with_reducible refine gate_dst (N := 40) rfl ?_); (try (refine gate_guard (by rfl) ?_; dsimp only)); refine Kd.R_lit (Kd.int .i64) _ 3 ?hg (N := 40) ?hd (xs := ([2] : List Int)) (inner := [.int .i64 2]) (ok := fun _ => True) (okp := fun _ => True) ?hr ?hp (fun _ hk => hk) trivial (Below.refl _ _) (Nat.le_refl _) (by simp) ?_; (case hd => rfl); (case hg => rfl); (case hr => first | (go_simp; done) | (go_simp; rfl)); (case hp => exact (Reps.one (show Kd.M (Kd.int .i64) _ _ _ 2 [.int .i64 2] from rfl) (Reps.none _ _))); intro v288 w47 ho48 hb hg_ hnew_; clear hg_ hnew_; (first | rw [← Ny287.out] at ho48 | (simp only [Int.reduceToNat] at ho48; rw [← Ny287.out] at ho48)); have HO289 := Aside0.mk (Kd.R_lower (Kd.R_new' (Kd.R_new' (Kd.R_new' ho48 (Kd.R_lt (mvR_ HO275.out))) (Kd.R_lt (mvR_ HO282.out))) (Kd.R_lt (mvR_ HO285.out))) (below_size (bq0_ HB.out))); replace HO271 := Aside0.mk (Kd.N_elder' (mvN_ HO271.out) (Kd.R_base ho48) hb); replace HO275 := Aside0.mk (Kd.R_elder' (mvR_ HO275.out) (Kd.R_base ho48) hb); replace HO282 := Aside0.mk (Kd.R_elder' (mvR_ HO282.out) (Kd.R_base ho48) hb); replace HO285 := Aside0.mk (Kd.R_elder' (mvR_ HO285.out) (Kd.R_base ho48) hb); replace HB := Aside0.mk (below_step (bq0_ HB.out) hb); clear hb ho48; obtain ⟨Ao49, co49, eo49⟩ := Kd.R_slice HO275.out; subst eo49; obtain ⟨Ao50, co50, eo50⟩ := Kd.R_slice HO289.out; subst eo50) | (go_at_call 17; (with_reducible refine (fullerref02_Same.calls k _ _ t272 _ _ y287 true _ ?side1 ?side2 ?side3 ?side4 A13.out).mono ?_); (case side1 => exact mvC_ ((Kd.R_reads' HO275.out).2.2)); (case side2 => exact (Kd.R_reads' HO275.out).2.1); (case side3 => exact mvC_ ((Kd.R_reads' HO289.out).2.2)); (case side4 => exact (Kd.R_reads' HO289.out).2.1); rintro e w' ⟨rfl, ⟨nd, rfl⟩⟩) | (go_at_call 20; (with_reducible refine (graph_Uses.calls k _ _ y269 0 t291 _ ?side1 ?side2 A16.out).mono ?_); (case side1 => exact mvC_ ((Kd.N_reads' HO271.out).2.2)); (case side2 => exact (Kd.N_reads' HO271.out).2.1); rintro e w51 ⟨v292, rfl, ho0, hb⟩; have HO293 := Aside0.mk (Kd.R_lower (Kd.R_new' (Kd.R_new' (Kd.R_new' (Kd.R_new' ho0 (Kd.R_lt (mvR_ HO275.out))) (Kd.R_lt (mvR_ HO282.out))) (Kd.R_lt (mvR_ HO285.out))) (Kd.R_lt (mvR_ HO289.out))) (below_size (bq0_ HB.out))); replace HO271 := Aside0.mk (Kd.N_elder' (mvN_ HO271.out) (Kd.R_base ho0) hb); replace HO275 := Aside0.mk (Kd.R_elder' (mvR_ HO275.out) (Kd.R_base ho0) hb); replace HO282 := Aside0.mk (Kd.R_elder' (mvR_ HO282.out) (Kd.R_base ho0) hb); replace HO285 := Aside0.mk (Kd.R_elder' (mvR_ HO285.out) (Kd.R_base ho0) hb); replace HO289 := Aside0.mk (Kd.R_elder' (mvR_ HO289.out) (Kd.R_base ho0) hb); replace HB := Aside0.mk (below_step (bq0_ HB.out) hb); (try clear hb); (try clear ho0)) | ((with_reducible refine gate_dst (N := 49) rfl ?_); (try (refine gate_guard (by rfl) ?_; dsimp only)); refine Kd.R_lit (Kd.int .i64) _ 3 ?hg (N := 49) ?hd (xs := ([3, 3] : List Int)) (inner := [.int .i64 3, .int .i64 3]) (ok := fun _ => True) (okp := fun _ => True) ?hr ?hp (fun _ hk => hk) trivial (Below.refl _ _) (Nat.le_refl _) (by simp) ?_; (case hd => rfl); (case hg => rfl); (case hr => first | (go_simp; done) | (go_simp; rfl)); (case hp => exact (Reps.one (show Kd.M (Kd.int .i64) _ _ _ 3 [.int .i64 3] from rfl) (Reps.one (show Kd.M (Kd.int .i64) _ _ _ 3 [.int .i64 3] from rfl) (Reps.none _ _)))); intro v295 w52 ho53 hb hg_ hnew_; clear hg_ hnew_; (first | rw [← Ny294.out] at ho53 | (simp only [Int.reduceToNat] at ho53; rw [← Ny294.out] at ho53)); have HO296 := Aside0.mk (Kd.R_lower (Kd.R_new' (Kd.R_new' (Kd.R_new' (Kd.R_new' (Kd.R_new' ho53 (Kd.R_lt (mvR_ HO275.out))) (Kd.R_lt (mvR_ HO282.out))) (Kd.R_lt (mvR_ HO285.out))) (Kd.R_lt (mvR_ HO289.out))) (Kd.R_lt (mvR_ HO293.out))) (below_size (bq0_ HB.out))); replace HO271 := Aside0.mk (Kd.N_elder' (mvN_ HO271.out) (Kd.R_base ho53) hb); replace HO275 := Aside0.mk (Kd.R_elder' (mvR_ HO275.out) (Kd.R_base ho53) hb); replace HO282 := Aside0.mk (Kd.R_elder' (mvR_ HO282.out) (Kd.R_base ho53) hb); replace HO285 := Aside0.mk (Kd.R_elder' (mvR_ HO285.out) (Kd.R_base ho53) hb); replace HO289 := Aside0.mk (Kd.R_elder' (mvR_ HO289.out) (Kd.R_base ho53) hb); replace HO293 := Aside0.mk (Kd.R_elder' (mvR_ HO293.out) (Kd.R_base ho53) hb); replace HB := Aside0.mk (below_step (bq0_ HB.out) hb); clear hb ho53; obtain ⟨Ao54, co54, eo54⟩ := Kd.R_slice HO293.out; subst eo54; obtain ⟨Ao55, co55, eo55⟩ := Kd.R_slice HO296.out; subst eo55) | (go_at_call 17; (with_reducible refine (fullerref02_Same.calls k _ _ t291 _ _ y294 true _ ?side1 ?side2 ?side3 ?side4 A17.out).mono ?_); (case side1 => exact mvC_ ((Kd.R_reads' HO293.out).2.2)); (case side2 => exact (Kd.R_reads' HO293.out).2.1); (case side3 => exact mvC_ ((Kd.R_reads' HO296.out).2.2)); (case side4 => exact (Kd.R_reads' HO296.out).2.1); rintro e w' ⟨rfl, ⟨nd, rfl⟩⟩) | (go_at_call 22; (with_reducible refine (graph_Live.calls _ _ y269 t298 _ ?side1 ?side2 A19.out).mono ?_); (case side1 => exact mvC_ ((Kd.N_reads' HO271.out).2.2)); (case side2 => exact (Kd.N_reads' HO271.out).2.1); rintro e w56 ⟨v299, rfl, ho0, hb⟩; have HO300 := Aside0.mk (Kd.R_lower (Kd.R_new' (Kd.R_new' (Kd.R_new' (Kd.R_new' (Kd.R_new' (Kd.R_new' ho0 (Kd.R_lt (mvR_ HO275.out))) (Kd.R_lt (mvR_ HO282.out))) (Kd.R_lt (mvR_ HO285.out))) (Kd.R_lt (mvR_ HO289.out))) (Kd.R_lt (mvR_ HO293.out))) (Kd.R_lt (mvR_ HO296.out))) (below_size (bq0_ HB.out))); replace HO271 := Aside0.mk (Kd.N_elder' (mvN_ HO271.out) (Kd.R_base ho0) hb); replace HO275 := Aside0.mk (Kd.R_elder' (mvR_ HO275.out) (Kd.R_base ho0) hb); replace HO282 := Aside0.mk (Kd.R_elder' (mvR_ HO282.out) (Kd.R_base ho0) hb); replace HO285 := Aside0.mk (Kd.R_elder' (mvR_ HO285.out) (Kd.R_base ho0) hb); replace HO289 := Aside0.mk (Kd.R_elder' (mvR_ HO289.out) (Kd.R_base ho0) hb); replace HO293 := Aside0.mk (Kd.R_elder' (mvR_ HO293.out) (Kd.R_base ho0) hb); replace HO296 := Aside0.mk (Kd.R_elder' (mvR_ HO296.out) (Kd.R_base ho0) hb); replace HB := Aside0.mk (below_step (bq0_ HB.out) hb); (try clear hb); (try clear ho0)) | ((with_reducible refine gate_dst (N := 55) rfl ?_); (try (refine gate_guard (by rfl) ?_; dsimp only)); refine Kd.R_lit (Kd.int .i64) _ 3 ?hg (N := 55) ?hd (xs := ([0, 3] : List Int)) (inner := [.int .i64 0, .int .i64 3]) (ok := fun _ => True) (okp := fun _ => True) ?hr ?hp (fun _ hk => hk) trivial (Below.refl _ _) (Nat.le_refl _) (by simp) ?_; (case hd => rfl); (case hg => rfl); (case hr => first | (go_simp; done) | (go_simp; rfl)); (case hp => exact (Reps.one (show Kd.M (Kd.int .i64) _ _ _ 0 [.int .i64 0] from rfl) (Reps.one (show Kd.M (Kd.int .i64) _ _ _ 3 [.int .i64 3] from rfl) (Reps.none _ _)))); intro v302 w57 ho58 hb hg_ hnew_; clear hg_ hnew_; (first | rw [← Ny301.out] at ho58 | (simp only [Int.reduceToNat] at ho58; rw [← Ny301.out] at ho58)); have HO303 := Aside0.mk (Kd.R_lower (Kd.R_new' (Kd.R_new' (Kd.R_new' (Kd.R_new' (Kd.R_new' (Kd.R_new' (Kd.R_new' ho58 (Kd.R_lt (mvR_ HO275.out))) (Kd.R_lt (mvR_ HO282.out))) (Kd.R_lt (mvR_ HO285.out))) (Kd.R_lt (mvR_ HO289.out))) (Kd.R_lt (mvR_ HO293.out))) (Kd.R_lt (mvR_ HO296.out))) (Kd.R_lt (mvR_ HO300.out))) (below_size (bq0_ HB.out))); replace HO271 := Aside0.mk (Kd.N_elder' (mvN_ HO271.out) (Kd.R_base ho58) hb); replace HO275 := Aside0.mk (Kd.R_elder' (mvR_ HO275.out) (Kd.R_base ho58) hb); replace HO282 := Aside0.mk (Kd.R_elder' (mvR_ HO282.out) (Kd.R_base ho58) hb); replace HO285 := Aside0.mk (Kd.R_elder' (mvR_ HO285.out) (Kd.R_base ho58) hb); replace HO289 := Aside0.mk (Kd.R_elder' (mvR_ HO289.out) (Kd.R_base ho58) hb); replace HO293 := Aside0.mk (Kd.R_elder' (mvR_ HO293.out) (Kd.R_base ho58) hb); replace HO296 := Aside0.mk (Kd.R_elder' (mvR_ HO296.out) (Kd.R_base ho58) hb); replace HO300 := Aside0.mk (Kd.R_elder' (mvR_ HO300.out) (Kd.R_base ho58) hb); replace HB := Aside0.mk (below_step (bq0_ HB.out) hb); clear hb ho58; obtain ⟨Ao59, co59, eo59⟩ := Kd.R_slice HO300.out; subst eo59; obtain ⟨Ao60, co60, eo60⟩ := Kd.R_slice HO303.out; subst eo60) | (go_at_call 17; (with_reducible refine (fullerref02_Same.calls k _ _ t298 _ _ y301 true _ ?side1 ?side2 ?side3 ?side4 A20.out).mono ?_); (case side1 => exact mvC_ ((Kd.R_reads' HO300.out).2.2)); (case side2 => exact (Kd.R_reads' HO300.out).2.1); (case side3 => exact mvC_ ((Kd.R_reads' HO303.out).2.2)); (case side4 => exact (Kd.R_reads' HO303.out).2.1); rintro e w' ⟨rfl, ⟨nd, rfl⟩⟩) | (go_at_call 13; (refine (graph_Check.calls _ _ ([] : List (S35)) false _ ?side1 ?side2 A4.out).mono ?_); (case side1 => exact Kd.C_nil _ _); (case side2 => exact Nat.le_refl _); rintro e w39 ⟨rfl, hb⟩; replace HO271 := Aside0.mk (Kd.N_below (mvN_ HO271.out) hb); replace HO275 := Aside0.mk (Kd.R_below (mvR_ HO275.out) hb); replace HB := Aside0.mk (below_step (bq0_ HB.out) hb); (try clear hb)))
          go_ret
          exact ⟨by first | rfl | (simp <;> rfl) | (simp [*] <;> rfl), bq0_ HB.out⟩
         ·replace c21 := Bool.eq_false_iff.mpr c21
          subst c21
          have H1 : (none) = some r := by rw [if_neg (show ¬ (false = true) by decide)] at H; exact H
          clear H
          have H := H1
          clear H1
          exact absurd H (by simp)
        ·replace c18 := Bool.eq_false_iff.mpr c18
         subst c18
         have H1 : (none) = some r := by rw [if_neg (show ¬ (false = true) by decide)] at H; exact H
         clear H
         have H := H1
         clear H1
         exact absurd H (by simp)
       ·replace c15 := Bool.eq_false_iff.mpr c15
        subst c15
        have H1 : (none) = some r := by rw [if_neg (show ¬ (false = true) by decide)] at H; exact H
        clear H
        have H := H1
        clear H1
        exact absurd H (by simp)
      ·replace c14 := Bool.eq_false_iff.mpr c14
       subst c14
       have H1 : (none) = some r := by rw [if_neg (show ¬ (false = true) by decide)] at H; exact H
       clear H
       have H := H1
       clear H1
       exact absurd H (by simp)
     ·replace c12 := Bool.eq_false_iff.mpr c12
      subst c12
      have H1 : (none) = some r := by rw [if_neg (show ¬ (false = true) by decide)] at H; exact H
      clear H
      have H := H1
      clear H1
      exact absurd H (by simp)
    ·rw [if_neg c9] at H
     exact absurd H (by simp)
   ·rw [if_neg c7] at H
    exact absurd H (by simp)
 ·replace c3 := Bool.eq_false_iff.mpr c3
  subst c3
  have H1 : (none) = some r := by rw [if_neg (show ¬ (false = true) by decide)] at H; exact H
  clear H
  have H := H1
  clear H1
  exact absurd H (by simp)

end Go.Proofs.Ytklnbfdoklcmfaa.A
