/- Lean functions that answer as the Go functions do, and the proofs that they do; no conditions. Written by this session's own driver: a scratch copy of the kit's print with the session's additions (wip/xprint). -/
import Derived.Test.YtalmgghhpgfgoaaAx0
import Derived.Test.YtalmgghhpgfgoaaAx1
import Derived.Test.YtalmgghhpgfgoaaAx3
import Derived.Test.YtalmgghhpgfgoaaAx4
namespace Go.Proofs.Ytalmgghhpgfgoaa.A
open Go.RowKit Go.Proofs.YtalmgghhpgfgoaaW.PrintWords Go.Proofs.YtalmgghhpgfgoaaW.PrintLast Go.Proofs.YtalmgghhpgfgoaaW.PrintMore
attribute [local go_sem] max2_int min2_int max_two min_two max_three min_three max_four min_four   -- for this text's walks alone
set_option linter.unusedVariables false
set_option linter.unusedSimpArgs false

/-! ### shape_Join: function 61 -/
mutual
def shape_Join.j0 : Nat → List Int → List Int → Bool → Option (List Int × Int)
 | 0, _, _, _ => none
 | k + 1, x0, x1, x17 => if x17 = true then (some (([] : List Int), 20)) else (if 0 ≤ (mx (x0.length : Int) (x1.length : Int)) then (if (mx (x0.length : Int) (x1.length : Int) : Int).toNat ≤ 35184372088832 then ((some (List.replicate (mx (x0.length : Int) (x1.length : Int) : Int).toNat 0 : List Int)).bind fun y158 => (shape_Join.l0 k x0 x1 y158 (y158.length : Int) 0)) else (none)) else (none))
def shape_Join.l0 : Nat → List Int → List Int → List Int → Int → Int → Option (List Int × Int)
 | 0, _, _, _, _, _ => none
 | k + 1, x0, x1, x6, x25, x26 => if x26 < x25 then ((shape_side.f x0 x26).bind fun t162 => ((shape_side.f x1 x26).bind fun t163 => (if t162 = t163 then (if 0 ≤ (wrap64 ((wrap64 ((x6.length : Int) - 1)) - x26)) then (if (wrap64 ((wrap64 ((x6.length : Int) - 1)) - x26)) < (x6.length : Int) then (shape_Join.l0 k x0 x1 (x6.set ((wrap64 ((wrap64 ((x6.length : Int) - 1)) - x26)) : Int).toNat (mx t162 t163)) x25 (wrap64 (x26 + 1))) else (none)) else (none)) else (if t162 = 1 then (if 0 ≤ (wrap64 ((wrap64 ((x6.length : Int) - 1)) - x26)) then (if (wrap64 ((wrap64 ((x6.length : Int) - 1)) - x26)) < (x6.length : Int) then (shape_Join.l0 k x0 x1 (x6.set ((wrap64 ((wrap64 ((x6.length : Int) - 1)) - x26)) : Int).toNat (mx t162 t163)) x25 (wrap64 (x26 + 1))) else (none)) else (none)) else (if t163 = 1 then (if 0 ≤ (wrap64 ((wrap64 ((x6.length : Int) - 1)) - x26)) then (if (wrap64 ((wrap64 ((x6.length : Int) - 1)) - x26)) < (x6.length : Int) then (shape_Join.l0 k x0 x1 (x6.set ((wrap64 ((wrap64 ((x6.length : Int) - 1)) - x26)) : Int).toNat (mx t162 t163)) x25 (wrap64 (x26 + 1))) else (none)) else (none)) else (some (([] : List Int), 20))))))) else ((shape_Check.f k x6).bind fun t161 => (if t161 = true then (some (x6, 0)) else (some (([] : List Int), 20))))
end
def shape_Join.f (k : Nat) (l0 : List Int) (l1 : List Int) : Option (List Int × Int) := (shape_Check.f k l0).bind fun t156 => (if t156 = true then ((shape_Check.f k l1).bind fun t157 => (shape_Join.j0 k l0 l1 (!t157))) else (shape_Join.j0 k l0 l1 true))
theorem shape_Join.mono_l : ∀ k, (∀ y0 y1 y2, LeO (shape_Join.j0 k y0 y1 y2) (shape_Join.j0 (k + 1) y0 y1 y2)) ∧ (∀ y0 y1 y2 y3 y4, LeO (shape_Join.l0 k y0 y1 y2 y3 y4) (shape_Join.l0 (k + 1) y0 y1 y2 y3 y4))
 | 0 => ⟨fun _ _ _ r h => by simp [shape_Join.j0] at h, fun _ _ _ _ _ r h => by simp [shape_Join.l0] at h⟩
 | k + 1 => by
  obtain ⟨ih0, ih1⟩ := shape_Join.mono_l k
  refine ⟨?_, ?_⟩
  ·intro y0 y1 y2
   unfold shape_Join.j0
   repeat' first
   | (with_reducible exact ih0 _ _ _)
   | (with_reducible exact ih1 _ _ _ _ _)
   | (with_reducible exact shape_Check.mono _ _)
   | (with_reducible exact LeO.refl _)
   | (with_reducible exact LeO.none _)
   | (with_reducible refine LeO.ite ?_ ?_)
   | (with_reducible refine LeO.bind ?_ (fun _ => ?_))
   | exact ih0 _ _ _
   | exact ih1 _ _ _ _ _
   | exact shape_Check.mono _ _
   | exact LeO.none _
   | refine LeO.ite ?_ ?_
   | refine LeO.bind ?_ (fun _ => ?_)
  ·intro y0 y1 y2 y3 y4
   unfold shape_Join.l0
   repeat' first
   | (with_reducible exact ih0 _ _ _)
   | (with_reducible exact ih1 _ _ _ _ _)
   | (with_reducible exact shape_Check.mono _ _)
   | (with_reducible exact LeO.refl _)
   | (with_reducible exact LeO.none _)
   | (with_reducible refine LeO.ite ?_ ?_)
   | (with_reducible refine LeO.bind ?_ (fun _ => ?_))
   | exact ih0 _ _ _
   | exact ih1 _ _ _ _ _
   | exact shape_Check.mono _ _
   | exact LeO.none _
   | refine LeO.ite ?_ ?_
   | refine LeO.bind ?_ (fun _ => ?_)
theorem shape_Join.mono : ∀ a0 a1 k, LeO (shape_Join.f k a0 a1) (shape_Join.f (k + 1) a0 a1) := by
 intro a0 a1 k
 obtain ⟨ih0, ih1⟩ := shape_Join.mono_l k
 unfold shape_Join.f
 repeat' first
   | (with_reducible exact ih0 _ _ _)
   | (with_reducible exact ih1 _ _ _ _ _)
   | (with_reducible exact shape_Check.mono _ _)
   | (with_reducible exact LeO.refl _)
   | (with_reducible exact LeO.none _)
   | (with_reducible refine LeO.ite ?_ ?_)
   | (with_reducible refine LeO.bind ?_ (fun _ => ?_))
   | exact ih0 _ _ _
   | exact ih1 _ _ _ _ _
   | exact shape_Check.mono _ _
   | exact LeO.none _
   | refine LeO.ite ?_ ?_
   | refine LeO.bind ?_ (fun _ => ?_)
set_option maxHeartbeats 8000000 in
set_option maxRecDepth 100000 in
theorem shape_Join.calls (k : Nat) (A0 : Option Addr) (c0 : Nat) (l0 : List Int) (A1 : Option Addr) (c1 : Nat) (l1 : List Int) (r1 : List Int) (r2 : Int) (w : World) (hr0 : Kd.C (Kd.int .i64) w A0 l0.length l0) (hc0 : l0.length ≤ c0) (hr1 : Kd.C (Kd.int .i64) w A1 l1.length l1) (hc1 : l1.length ≤ c1) (h : shape_Join.f k l0 l1 = some (r1, r2)) :
  Calls Try.prog 61 #[.slice A0 l0.length c0, .slice A1 l1.length c1] w fun e w' => ∃ v0_ : Value, e = .returned (.tuple #[v0_, .int .i64 r2]) ∧ Kd.R (Kd.int .i64) 3 w' w.heap.size (fun _ => True) v0_ r1 ∧ Below w.heap.size w w' := by
 have HR0 := Aside0.mk hr0
 have HC0 := Aside0.mk hc0
 clear hr0 hc0
 have HR1 := Aside0.mk hr1
 have HC1 := Aside0.mk hc1
 clear hr1 hc1
 have HB := Aside0.mk (Below.refl w.heap.size w)
 have H : ((shape_Check.f k l0).bind fun t156 => (if t156 = true then ((shape_Check.f k l1).bind fun t157 => (shape_Join.j0 k l0 l1 (!t157))) else (shape_Join.j0 k l0 l1 true))) = some (r1, r2) := h
 clear h
 have HC3 := Aside0.mk H
 clear H
 go_enter Try.func61, Try.ntmps61
 go_upto_region 1 with (fail)
 go_cut [17] (fun v17 wc => ∃ (kq : Nat) (x17_2 : Bool), v17 = .bool x17_2 ∧ Aside0 (shape_Join.j0 kq l0 l1 x17_2 = some (r1, r2)) ∧ Aside0 (kq ≤ k) ∧ Aside0 (Below w.heap.size w wc))
 case first =>
  have H := HC3.out
  clear HC3
  replace H := Option.bind_eq_some_iff.mp H
  obtain ⟨t156, A40, H⟩ := H
  replace H : (if t156 = true then ((shape_Check.f k l1).bind fun t157 => (shape_Join.j0 k l0 l1 (!t157))) else (shape_Join.j0 k l0 l1 true)) = some (r1, r2) := H
  have A4 := Aside0.mk A40
  clear A40
  by_cases c5 : t156 = true
  ·subst c5
   have H1 : ((shape_Check.f k l1).bind fun t157 => (shape_Join.j0 k l0 l1 (!t157))) = some (r1, r2) := by rw [if_pos rfl] at H; exact H
   clear H
   have H := H1
   clear H1
   replace H := Option.bind_eq_some_iff.mp H
   obtain ⟨t157, A60, H⟩ := H
   replace H : (shape_Join.j0 k l0 l1 (!t157)) = some (r1, r2) := H
   have A6 := Aside0.mk A60
   clear A60
   have H' := Aside0.mk H
   clear H
   go_wp2_with (first | ((with_reducible refine gate_callee (f := 18) rfl ?_); refine gL_ (some 11) Try.func18 #[.slice A0 l0.length c0] ?_; (with_reducible refine (shape_Check.calls k _ _ l0 true _ ?side1 ?side2 A4.out).mono ?_); (case side1 => exact mvC_ ((Kd.C_below HR0.out HB.out))); (case side2 => exact HC0.out); rintro e w' ⟨rfl, ⟨nd, rfl⟩⟩; refine ⟨_, rfl, ?_⟩) | (go_at_call 18; (with_reducible refine (shape_Check.calls k _ _ l1 t157 _ ?side1 ?side2 A6.out).mono ?_); (case side1 => repeat (first | exact (Kd.C_below HR1.out (bq0_ HB.out)) | (with_reducible refine Kd.C_alloc ?_ _) | (with_reducible refine Kd.C_drewN ?_ _) | (with_reducible refine Kd.C_drew ?_))); (case side2 => exact HC1.out); rintro e w' ⟨rfl, ⟨nd, rfl⟩⟩))
   go_meet
   case rel => exact ⟨_, (!t157), (by first | rfl | (simp; done) | (simp [*]; done)), H', ⟨by first | omega | exact Nat.le_refl _⟩, ⟨bq0_ HB.out⟩⟩
  ·replace c5 := Bool.eq_false_iff.mpr c5
   subst c5
   have H1 : (shape_Join.j0 k l0 l1 true) = some (r1, r2) := by rw [if_neg (show ¬ (false = true) by decide)] at H; exact H
   clear H
   have H := H1
   clear H1
   have H' := Aside0.mk H
   clear H
   go_wp2_with (first | ((with_reducible refine gate_callee (f := 18) rfl ?_); refine gL_ (some 11) Try.func18 #[.slice A0 l0.length c0] ?_; (with_reducible refine (shape_Check.calls k _ _ l0 false _ ?side1 ?side2 A4.out).mono ?_); (case side1 => exact mvC_ ((Kd.C_below HR0.out HB.out))); (case side2 => exact HC0.out); rintro e w' ⟨rfl, ⟨nd, rfl⟩⟩; refine ⟨_, rfl, ?_⟩))
   go_meet
   case rel => exact ⟨_, (true), (by first | rfl | (simp; done) | (simp [*]; done)), H', ⟨by first | omega | exact Nat.le_refl _⟩, ⟨bq0_ HB.out⟩⟩
 case rest =>
  clear HC3
  try clear c1
  try clear p2
  try clear c5
  try clear c6
  obtain ⟨kq, x17_2, rfl, HA, HJ2, HB⟩ := hcut
  cases kq with
  | zero => exact absurd HA.out (by simp [shape_Join.j0])
  | succ kj2 =>
   have H := HA.out
   clear HA
   simp only [shape_Join.j0] at H
   by_cases c7 : x17_2 = true
   ·subst c7
    have H1 : (some (([] : List Int), 20)) = some (r1, r2) := by rw [if_pos rfl] at H; exact H
    clear H
    have H := H1
    clear H1
    simp only [Option.some.injEq, Prod.mk.injEq] at H
    obtain ⟨rfl, rfl⟩ := H
    go_wp2
    go_ret2
    exact ⟨_, by first | rfl | (simp <;> rfl) | (simp [*] <;> rfl), by first | exact Kd.R_nil _ _ _ _ _ | exact Kd.N_nil _ _ _ _ _ | exact Kd.V_nil _ _ _ _ _ | exact Kd.Q_nil _ _ _ _ _ | exact Kd.S_nil _ _ _ _ _, bq0_ HB.out⟩
   ·replace c7 := Bool.eq_false_iff.mpr c7
    subst c7
    have H1 : (if 0 ≤ (mx (l0.length : Int) (l1.length : Int)) then (if (mx (l0.length : Int) (l1.length : Int) : Int).toNat ≤ 35184372088832 then ((some (List.replicate (mx (l0.length : Int) (l1.length : Int) : Int).toNat 0 : List Int)).bind fun y158 => (shape_Join.l0 kj2 l0 l1 y158 (y158.length : Int) 0)) else (none)) else (none)) = some (r1, r2) := by rw [if_neg (show ¬ (false = true) by decide)] at H; exact H
    clear H
    have H := H1
    clear H1
    obtain ⟨ji8, hji8⟩ : ∃ j_ : Int, (mx (l0.length : Int) (l1.length : Int)) = j_ := ⟨_, rfl⟩
    replace H : (if 0 ≤ (ji8) then (if (ji8 : Int).toNat ≤ 35184372088832 then ((some (List.replicate (ji8 : Int).toNat 0 : List Int)).bind fun y158 => (shape_Join.l0 kj2 l0 l1 y158 (y158.length : Int) 0)) else (none)) else (none)) = some (r1, r2) := by first | (rw [hji8] at H; exact H) | (simp only [hji8] at H ⊢; exact H)
    have hji8n : (if l0.length < l1.length then (l1.length : Int) else (l0.length : Int)) = ji8 := by rw [← hji8]; simp only [mx, Int.ofNat_lt]
    have hji8_ : (if (l0.length : Int) < (l1.length : Int) then (l1.length : Int) else (l0.length : Int)) = ji8 := hji8
    by_cases c9 : 0 ≤ (ji8)
    ·rw [if_pos c9] at H
     have c9b0 := eq_true c9
     have c9b1 : decide (0 ≤ (ji8)) = true := decide_eq_true c9
     clear c9
     by_cases c10 : (ji8 : Int).toNat ≤ 35184372088832
     ·rw [if_pos c10] at H
      have c10b0 := eq_true c10
      have c10b1 : decide ((ji8 : Int).toNat ≤ 35184372088832) = true := decide_eq_true c10
      clear c10
      obtain ⟨y158, hy158⟩ : ∃ y_ : List Int, y_ = (List.replicate (ji8 : Int).toNat 0) := ⟨_, rfl⟩
      replace H : (shape_Join.l0 kj2 l0 l1 y158 (y158.length : Int) 0) = some (r1, r2) := by first | (rw [hy158]; with_reducible exact H) | (have H2_ := (Option.bind_some _ _).symm.trans H; rw [hy158]; with_reducible exact H2_) | (have H2_ := (Option.bind_some _ _).symm.trans H; with_reducible exact H2_) | with_reducible exact H | (rw [hy158]; exact H) | exact H
      have Ny158 := Aside0.mk hy158
      clear hy158
      have H' := Aside0.mk H
      clear H
      go_wp2_with (first | ((with_reducible refine gate_dst (N := 23) rfl ?_); refine Kd.R_make (Kd.int .i64) _ 3 rfl (N := 23) rfl 23 _ _ rfl ji8 rfl rfl Try.underlying23 (.int .i64 0) 8 info3 rfl (by decide) (by omega) 0 (ok := fun _ => True) (okp := fun _ => True) rfl (fun _ hk => hk) trivial od_ (Nat.le_trans (Nat.mul_le_mul_right _ (od_ : ji8.toNat ≤ 35184372088832)) (by omega)) (Below.refl _ _) (Nat.le_refl _) ?_; intro v159 w11 ho12 hb hg_ hnew_; clear hg_ hnew_; (first | rw [← Ny158.out] at ho12 | (simp only [Int.reduceToNat] at ho12; rw [← Ny158.out] at ho12)); have HO160 := Aside0.mk (Kd.R_lower ho12 (below_size (bq0_ HB.out))); replace HB := Aside0.mk (below_step (bq0_ HB.out) hb); clear hb ho12; obtain ⟨Ao13, co13, eo13⟩ := Kd.R_slice HO160.out; subst eo13))
      go_loopg [26] kj2 (fun kq v26 w' => ∃ (x6_2 : List Int) (x26_2 : Int), v26 = .int .i64 x26_2 ∧ Aside0 (shape_Join.l0 kq l0 l1 x6_2 (y158.length : Int) x26_2 = some (r1, r2)) ∧ Aside0 (kq ≤ kj2) ∧ Aside0 (Kd.R (Kd.int .i64) 3 w' w.heap.size (fun _ => True) (.slice Ao13 y158.length co13) x6_2) ∧ Aside0 (Below w.heap.size w w'))
      case atStart => exact ⟨(y158), (0), (by first | rfl | (simp; done) | (simp [*]; done)), H', ⟨Nat.le_refl _⟩, ⟨mvR_ HO160.out⟩, ⟨bq0_ HB.out⟩⟩
      case round =>
       clear H'
       try clear c1
       try clear p2
       try clear c5
       try clear c6
       try clear c7
       try clear c9
       try clear c9b0
       try clear c9b1
       try clear c10
       try clear c10b0
       try clear c10b1
       try clear p2
       obtain ⟨x6_2, x26_2, rfl, HA, HK2, HO_6, HB⟩ := hrel
       have hl6_2 := (Kd.R_reads' HO_6.out).1
       rw [hl6_2] at HO_6
       (try simp only [hl6_2])
       cases gk with
       | zero => exact absurd HA.out (by simp [shape_Join.l0])
       | succ k2 =>
        have H := HA.out
        clear HA
        simp only [shape_Join.l0] at H
        by_cases c14 : x26_2 < (y158.length : Int)
        ·rw [if_pos c14] at H
         have c14b0 : decide (x26_2 < (y158.length : Int)) = true := decide_eq_true c14
         (try (have c14b0_hl6_2 := c14b0; simp only [hl6_2] at c14b0_hl6_2))
         clear c14
         replace H := Option.bind_eq_some_iff.mp H
         obtain ⟨t162, A150, H⟩ := H
         replace H : ((shape_side.f l1 x26_2).bind fun t163 => (if t162 = t163 then (if 0 ≤ (wrap64 ((wrap64 ((x6_2.length : Int) - 1)) - x26_2)) then (if (wrap64 ((wrap64 ((x6_2.length : Int) - 1)) - x26_2)) < (x6_2.length : Int) then (shape_Join.l0 k2 l0 l1 (x6_2.set ((wrap64 ((wrap64 ((x6_2.length : Int) - 1)) - x26_2)) : Int).toNat (mx t162 t163)) (y158.length : Int) (wrap64 (x26_2 + 1))) else (none)) else (none)) else (if t162 = 1 then (if 0 ≤ (wrap64 ((wrap64 ((x6_2.length : Int) - 1)) - x26_2)) then (if (wrap64 ((wrap64 ((x6_2.length : Int) - 1)) - x26_2)) < (x6_2.length : Int) then (shape_Join.l0 k2 l0 l1 (x6_2.set ((wrap64 ((wrap64 ((x6_2.length : Int) - 1)) - x26_2)) : Int).toNat (mx t162 t163)) (y158.length : Int) (wrap64 (x26_2 + 1))) else (none)) else (none)) else (if t163 = 1 then (if 0 ≤ (wrap64 ((wrap64 ((x6_2.length : Int) - 1)) - x26_2)) then (if (wrap64 ((wrap64 ((x6_2.length : Int) - 1)) - x26_2)) < (x6_2.length : Int) then (shape_Join.l0 k2 l0 l1 (x6_2.set ((wrap64 ((wrap64 ((x6_2.length : Int) - 1)) - x26_2)) : Int).toNat (mx t162 t163)) (y158.length : Int) (wrap64 (x26_2 + 1))) else (none)) else (none)) else (some (([] : List Int), 20)))))) = some (r1, r2) := H
         have A15 := Aside0.mk A150
         clear A150
         replace H := Option.bind_eq_some_iff.mp H
         obtain ⟨t163, A160, H⟩ := H
         replace H : (if t162 = t163 then (if 0 ≤ (wrap64 ((wrap64 ((x6_2.length : Int) - 1)) - x26_2)) then (if (wrap64 ((wrap64 ((x6_2.length : Int) - 1)) - x26_2)) < (x6_2.length : Int) then (shape_Join.l0 k2 l0 l1 (x6_2.set ((wrap64 ((wrap64 ((x6_2.length : Int) - 1)) - x26_2)) : Int).toNat (mx t162 t163)) (y158.length : Int) (wrap64 (x26_2 + 1))) else (none)) else (none)) else (if t162 = 1 then (if 0 ≤ (wrap64 ((wrap64 ((x6_2.length : Int) - 1)) - x26_2)) then (if (wrap64 ((wrap64 ((x6_2.length : Int) - 1)) - x26_2)) < (x6_2.length : Int) then (shape_Join.l0 k2 l0 l1 (x6_2.set ((wrap64 ((wrap64 ((x6_2.length : Int) - 1)) - x26_2)) : Int).toNat (mx t162 t163)) (y158.length : Int) (wrap64 (x26_2 + 1))) else (none)) else (none)) else (if t163 = 1 then (if 0 ≤ (wrap64 ((wrap64 ((x6_2.length : Int) - 1)) - x26_2)) then (if (wrap64 ((wrap64 ((x6_2.length : Int) - 1)) - x26_2)) < (x6_2.length : Int) then (shape_Join.l0 k2 l0 l1 (x6_2.set ((wrap64 ((wrap64 ((x6_2.length : Int) - 1)) - x26_2)) : Int).toNat (mx t162 t163)) (y158.length : Int) (wrap64 (x26_2 + 1))) else (none)) else (none)) else (some (([] : List Int), 20))))) = some (r1, r2) := H
         have A16 := Aside0.mk A160
         clear A160
         by_cases c17 : t162 = t163
         ·rw [if_pos c17] at H
          obtain ⟨c17b0, c17b1⟩ := eqT_ c17
          clear c17
          obtain ⟨ji18, hji18⟩ : ∃ j_ : Int, (mx t162 t163) = j_ := ⟨_, rfl⟩
          replace H : (if 0 ≤ (wrap64 ((wrap64 ((x6_2.length : Int) - 1)) - x26_2)) then (if (wrap64 ((wrap64 ((x6_2.length : Int) - 1)) - x26_2)) < (x6_2.length : Int) then (shape_Join.l0 k2 l0 l1 (x6_2.set ((wrap64 ((wrap64 ((x6_2.length : Int) - 1)) - x26_2)) : Int).toNat (ji18)) (y158.length : Int) (wrap64 (x26_2 + 1))) else (none)) else (none)) = some (r1, r2) := by first | (rw [hji18] at H; exact H) | (simp only [hji18] at H ⊢; exact H)
          (try rw [hji18] at A15)
          (try rw [hji18] at A16)
          have hji18_ : (if t162 < t163 then t163 else t162) = ji18 := hji18
          obtain ⟨ji19, hji19⟩ : ∃ j_ : Int, (wrap64 ((wrap64 ((x6_2.length : Int) - 1)) - x26_2)) = j_ := ⟨_, rfl⟩
          replace H : (if 0 ≤ (ji19) then (if (ji19) < (x6_2.length : Int) then (shape_Join.l0 k2 l0 l1 (x6_2.set ((ji19) : Int).toNat (ji18)) (y158.length : Int) (wrap64 (x26_2 + 1))) else (none)) else (none)) = some (r1, r2) := by first | (rw [hji19] at H; exact H) | (simp only [hji19] at H ⊢; exact H)
          (try rw [hji19] at A15)
          (try rw [hji19] at A16)
          have hji19w : (IntKind.i64.wrap ((wrap64 ((x6_2.length : Int) - 1)) - x26_2)) = ji19 := (i64_w _).trans hji19
          by_cases c20 : 0 ≤ (ji19)
          ·rw [if_pos c20] at H
           have c20b0 : decide (0 ≤ (ji19)) = true := decide_eq_true c20
           clear c20
           by_cases c21 : (ji19) < (x6_2.length : Int)
           ·rw [if_pos c21] at H
            have c21b0 : decide ((ji19) < (x6_2.length : Int)) = true := decide_eq_true c21
            (try (have c21b0_hl6_2 := c21b0; simp only [hl6_2] at c21b0_hl6_2))
            clear c21
            obtain ⟨y164, hy164⟩ : ∃ y_ : List Int, y_ = (x6_2.set ((ji19) : Int).toNat (ji18)) := ⟨_, rfl⟩
            replace H : (shape_Join.l0 k2 l0 l1 y164 (y158.length : Int) (wrap64 (x26_2 + 1))) = some (r1, r2) := by first | (rw [hy164]; with_reducible exact H) | (have H2_ := (Option.bind_some _ _).symm.trans H; rw [hy164]; with_reducible exact H2_) | (have H2_ := (Option.bind_some _ _).symm.trans H; with_reducible exact H2_) | with_reducible exact H | (rw [hy164]; exact H) | exact H
            have Ny164 := Aside0.mk hy164
            clear hy164
            have H' := Aside0.mk H
            clear H
            go_wp2_with (first | ((with_reducible refine gate_callee (f := 64) rfl ?_); refine gL_ (some 31) Try.func64 #[.slice A0 l0.length c0, .int .i64 x26_2] ?_; (with_reducible refine (shape_side.calls _ _ l0 x26_2 t162 _ ?side1 ?side2 A15.out).mono ?_); (case side1 => exact mvC_ ((Kd.C_below HR0.out HB.out))); (case side2 => exact HC0.out); rintro e w' ⟨rfl, ⟨nd, rfl⟩⟩; refine ⟨_, rfl, ?_⟩; (try (rw [drewN_self wr]; generalize hq_ : World.drewN wr _ = wr; have n0_ : Aside0 (Kd.R (Kd.int .i64) 3 wr w.heap.size (fun _ => True) (.slice Ao13 x6_2.length co13) x6_2) := ⟨by rw [← hq_]; exact (mvR_ HO_6.out)⟩; have n1_ : Aside0 (Below w.heap.size w wr) := ⟨by rw [← hq_]; exact (bq0_ HB.out)⟩; clear HO_6 HB hq_; have HO_6 := n0_; have HB := n1_; clear n0_ n1_))) | ((with_reducible refine gate_callee (f := 64) rfl ?_); refine gL_ (some 34) Try.func64 #[.slice A1 l1.length c1, .int .i64 x26_2] ?_; (with_reducible refine (shape_side.calls _ _ l1 x26_2 t163 _ ?side1 ?side2 A16.out).mono ?_); (case side1 => exact mvC_ ((Kd.C_below HR1.out HB.out))); (case side2 => exact HC1.out); rintro e w' ⟨rfl, ⟨nd, rfl⟩⟩; refine ⟨_, rfl, ?_⟩; (try (rw [drewN_self wr]; generalize hq_ : World.drewN wr _ = wr; have n0_ : Aside0 (Kd.R (Kd.int .i64) 3 wr w.heap.size (fun _ => True) (.slice Ao13 x6_2.length co13) x6_2) := ⟨by rw [← hq_]; exact (mvR_ HO_6.out)⟩; have n1_ : Aside0 (Below w.heap.size w wr) := ⟨by rw [← hq_]; exact (bq0_ HB.out)⟩; clear HO_6 HB hq_; have HO_6 := n0_; have HB := n1_; clear n0_ n1_)); have p22 : 0 ≤ ((ji19) : Int) := od_; have q22 : ((ji19) : Int) < ((x6_2.length : Int) : Int) := od_; obtain ⟨go22, co22, eo22, gb22, gl22, cl22, HG22⟩ := Kd.R_form HO_6.out (by omega); (first | cases eo22 | (injection eo22 with ea_ en_ ec_; (first | subst ea_ | (injection ea_ with ea_; subst ea_)); subst ec_; clear en_)); have GB22 := Aside0.mk gb22; have GG22 := Aside0.mk HG22; clear gb22 gl22 HG22; obtain ⟨hx22_0, hf22_0⟩ := Kd.R_celln 0 HO_6.out ((ji19) : Int) p22 q22; replace p22 := eq_true p22; replace q22 := eq_true q22; obtain ⟨hy23_, hz23_⟩ := Kd.R_celln 0 HO_6.out ((ji19) : Int) od_ od_; have HP23 := Kd.R_putg HO_6.out ((ji19) : Int) ji18) | ((with_reducible refine gate_store (t := 3) (p := 55) rfl ?_); refine store_event (t := 3) (p := 55) (v := ?vo_w24) (w1 := (wr.setCell ⟨go22, ((ji19) : Int).toNat, none⟩ (.int .i64 ji18))) ?hg ?ho ?hn ?hr ?_; (case ho => rfl); (case hg => rfl); (case hn => rfl); (case hr => first | (go_simp; done) | (go_simp; rfl)); intro w24 hw; have hg : wr.grownBy w24 (some go22) := (by rw [hw]; exact HP23.2); have hp_ : Kd.R (Kd.int .i64) 3 w24 w.heap.size (fun _ => True) (.slice (some ⟨go22, 0, none⟩) x6_2.length co13) y164 := (by rw [hw, Ny164.out]; exact HP23.1); clear HP23; replace HO_6 := Aside0.mk (hp_); replace HB := Aside0.mk ((by rw [hw]; exact below_set (HB.out) GB22.out : Below w.heap.size w w24)); clear hg hw hp_))
            (try simp only [← hl6_2])
            go_roundg k2
            case measure => have := HJ2.out; have := HK2.out; omega
            case rel => exact ⟨(y164), (wrap64 (x26_2 + 1)), (by first | rfl | (simp; done) | (simp [*]; done)), H', ⟨by have := HJ2.out; have := HK2.out; omega⟩, ⟨by (try simp only [hl6_2]); (with_reducible repeat (first | apply Kd.R_alloc | apply Kd.R_drewN | apply Kd.R_drew)); exact HO_6.out⟩, ⟨bq0_ HB.out⟩⟩
           ·rw [if_neg c21] at H
            exact absurd H (by simp)
          ·rw [if_neg c20] at H
           exact absurd H (by simp)
         ·rw [if_neg c17] at H
          have c17b0 : (t162 == t163) = false := beq_eq_false_iff_ne.mpr c17
          have c17b1 : (t162 != t163) = true := bne_iff_ne.mpr c17
          by_cases c25 : t162 = 1
          ·rw [if_pos c25] at H
           obtain ⟨c25b0, c25b1⟩ := eqT_ c25
           clear c25
           obtain ⟨ji26, hji26⟩ : ∃ j_ : Int, (mx t162 t163) = j_ := ⟨_, rfl⟩
           replace H : (if 0 ≤ (wrap64 ((wrap64 ((x6_2.length : Int) - 1)) - x26_2)) then (if (wrap64 ((wrap64 ((x6_2.length : Int) - 1)) - x26_2)) < (x6_2.length : Int) then (shape_Join.l0 k2 l0 l1 (x6_2.set ((wrap64 ((wrap64 ((x6_2.length : Int) - 1)) - x26_2)) : Int).toNat (ji26)) (y158.length : Int) (wrap64 (x26_2 + 1))) else (none)) else (none)) = some (r1, r2) := by first | (rw [hji26] at H; exact H) | (simp only [hji26] at H ⊢; exact H)
           (try rw [hji26] at A15)
           (try rw [hji26] at A16)
           have hji26_ : (if t162 < t163 then t163 else t162) = ji26 := hji26
           obtain ⟨ji27, hji27⟩ : ∃ j_ : Int, (wrap64 ((wrap64 ((x6_2.length : Int) - 1)) - x26_2)) = j_ := ⟨_, rfl⟩
           replace H : (if 0 ≤ (ji27) then (if (ji27) < (x6_2.length : Int) then (shape_Join.l0 k2 l0 l1 (x6_2.set ((ji27) : Int).toNat (ji26)) (y158.length : Int) (wrap64 (x26_2 + 1))) else (none)) else (none)) = some (r1, r2) := by first | (rw [hji27] at H; exact H) | (simp only [hji27] at H ⊢; exact H)
           (try rw [hji27] at A15)
           (try rw [hji27] at A16)
           have hji27w : (IntKind.i64.wrap ((wrap64 ((x6_2.length : Int) - 1)) - x26_2)) = ji27 := (i64_w _).trans hji27
           by_cases c28 : 0 ≤ (ji27)
           ·rw [if_pos c28] at H
            have c28b0 : decide (0 ≤ (ji27)) = true := decide_eq_true c28
            clear c28
            by_cases c29 : (ji27) < (x6_2.length : Int)
            ·rw [if_pos c29] at H
             have c29b0 : decide ((ji27) < (x6_2.length : Int)) = true := decide_eq_true c29
             (try (have c29b0_hl6_2 := c29b0; simp only [hl6_2] at c29b0_hl6_2))
             clear c29
             obtain ⟨y165, hy165⟩ : ∃ y_ : List Int, y_ = (x6_2.set ((ji27) : Int).toNat (ji26)) := ⟨_, rfl⟩
             replace H : (shape_Join.l0 k2 l0 l1 y165 (y158.length : Int) (wrap64 (x26_2 + 1))) = some (r1, r2) := by first | (rw [hy165]; with_reducible exact H) | (have H2_ := (Option.bind_some _ _).symm.trans H; rw [hy165]; with_reducible exact H2_) | (have H2_ := (Option.bind_some _ _).symm.trans H; with_reducible exact H2_) | with_reducible exact H | (rw [hy165]; exact H) | exact H
             have Ny165 := Aside0.mk hy165
             clear hy165
             have H' := Aside0.mk H
             clear H
             go_wp2_with (first | ((with_reducible refine gate_callee (f := 64) rfl ?_); refine gL_ (some 31) Try.func64 #[.slice A0 l0.length c0, .int .i64 x26_2] ?_; (with_reducible refine (shape_side.calls _ _ l0 x26_2 t162 _ ?side1 ?side2 A15.out).mono ?_); (case side1 => exact mvC_ ((Kd.C_below HR0.out HB.out))); (case side2 => exact HC0.out); rintro e w' ⟨rfl, ⟨nd, rfl⟩⟩; refine ⟨_, rfl, ?_⟩; (try (rw [drewN_self wr]; generalize hq_ : World.drewN wr _ = wr; have n0_ : Aside0 (Kd.R (Kd.int .i64) 3 wr w.heap.size (fun _ => True) (.slice Ao13 x6_2.length co13) x6_2) := ⟨by rw [← hq_]; exact (mvR_ HO_6.out)⟩; have n1_ : Aside0 (Below w.heap.size w wr) := ⟨by rw [← hq_]; exact (bq0_ HB.out)⟩; clear HO_6 HB hq_; have HO_6 := n0_; have HB := n1_; clear n0_ n1_))) | ((with_reducible refine gate_callee (f := 64) rfl ?_); refine gL_ (some 34) Try.func64 #[.slice A1 l1.length c1, .int .i64 x26_2] ?_; (with_reducible refine (shape_side.calls _ _ l1 x26_2 t163 _ ?side1 ?side2 A16.out).mono ?_); (case side1 => exact mvC_ ((Kd.C_below HR1.out HB.out))); (case side2 => exact HC1.out); rintro e w' ⟨rfl, ⟨nd, rfl⟩⟩; refine ⟨_, rfl, ?_⟩; (try (rw [drewN_self wr]; generalize hq_ : World.drewN wr _ = wr; have n0_ : Aside0 (Kd.R (Kd.int .i64) 3 wr w.heap.size (fun _ => True) (.slice Ao13 x6_2.length co13) x6_2) := ⟨by rw [← hq_]; exact (mvR_ HO_6.out)⟩; have n1_ : Aside0 (Below w.heap.size w wr) := ⟨by rw [← hq_]; exact (bq0_ HB.out)⟩; clear HO_6 HB hq_; have HO_6 := n0_; have HB := n1_; clear n0_ n1_)); have p30 : 0 ≤ ((ji27) : Int) := od_; have q30 : ((ji27) : Int) < ((x6_2.length : Int) : Int) := od_; obtain ⟨go30, co30, eo30, gb30, gl30, cl30, HG30⟩ := Kd.R_form HO_6.out (by omega); (first | cases eo30 | (injection eo30 with ea_ en_ ec_; (first | subst ea_ | (injection ea_ with ea_; subst ea_)); subst ec_; clear en_)); have GB30 := Aside0.mk gb30; have GG30 := Aside0.mk HG30; clear gb30 gl30 HG30; obtain ⟨hx30_0, hf30_0⟩ := Kd.R_celln 0 HO_6.out ((ji27) : Int) p30 q30; replace p30 := eq_true p30; replace q30 := eq_true q30; obtain ⟨hy31_, hz31_⟩ := Kd.R_celln 0 HO_6.out ((ji27) : Int) od_ od_; have HP31 := Kd.R_putg HO_6.out ((ji27) : Int) ji26) | ((with_reducible refine gate_store (t := 3) (p := 55) rfl ?_); refine store_event (t := 3) (p := 55) (v := ?vo_w32) (w1 := (wr.setCell ⟨go30, ((ji27) : Int).toNat, none⟩ (.int .i64 ji26))) ?hg ?ho ?hn ?hr ?_; (case ho => rfl); (case hg => rfl); (case hn => rfl); (case hr => first | (go_simp; done) | (go_simp; rfl)); intro w32 hw; have hg : wr.grownBy w32 (some go30) := (by rw [hw]; exact HP31.2); have hp_ : Kd.R (Kd.int .i64) 3 w32 w.heap.size (fun _ => True) (.slice (some ⟨go30, 0, none⟩) x6_2.length co13) y165 := (by rw [hw, Ny165.out]; exact HP31.1); clear HP31; replace HO_6 := Aside0.mk (hp_); replace HB := Aside0.mk ((by rw [hw]; exact below_set (HB.out) GB30.out : Below w.heap.size w w32)); clear hg hw hp_))
             (try simp only [← hl6_2])
             go_roundg k2
             case measure => have := HJ2.out; have := HK2.out; omega
             case rel => exact ⟨(y165), (wrap64 (x26_2 + 1)), (by first | rfl | (simp; done) | (simp [*]; done)), H', ⟨by have := HJ2.out; have := HK2.out; omega⟩, ⟨by (try simp only [hl6_2]); (with_reducible repeat (first | apply Kd.R_alloc | apply Kd.R_drewN | apply Kd.R_drew)); exact HO_6.out⟩, ⟨bq0_ HB.out⟩⟩
            ·rw [if_neg c29] at H
             exact absurd H (by simp)
           ·rw [if_neg c28] at H
            exact absurd H (by simp)
          ·rw [if_neg c25] at H
           have c25b0 : (t162 == 1) = false := beq_eq_false_iff_ne.mpr c25
           have c25b1 : (t162 != 1) = true := bne_iff_ne.mpr c25
           by_cases c33 : t163 = 1
           ·rw [if_pos c33] at H
            obtain ⟨c33b0, c33b1⟩ := eqT_ c33
            clear c33
            obtain ⟨ji34, hji34⟩ : ∃ j_ : Int, (mx t162 t163) = j_ := ⟨_, rfl⟩
            replace H : (if 0 ≤ (wrap64 ((wrap64 ((x6_2.length : Int) - 1)) - x26_2)) then (if (wrap64 ((wrap64 ((x6_2.length : Int) - 1)) - x26_2)) < (x6_2.length : Int) then (shape_Join.l0 k2 l0 l1 (x6_2.set ((wrap64 ((wrap64 ((x6_2.length : Int) - 1)) - x26_2)) : Int).toNat (ji34)) (y158.length : Int) (wrap64 (x26_2 + 1))) else (none)) else (none)) = some (r1, r2) := by first | (rw [hji34] at H; exact H) | (simp only [hji34] at H ⊢; exact H)
            (try rw [hji34] at A15)
            (try rw [hji34] at A16)
            have hji34_ : (if t162 < t163 then t163 else t162) = ji34 := hji34
            obtain ⟨ji35, hji35⟩ : ∃ j_ : Int, (wrap64 ((wrap64 ((x6_2.length : Int) - 1)) - x26_2)) = j_ := ⟨_, rfl⟩
            replace H : (if 0 ≤ (ji35) then (if (ji35) < (x6_2.length : Int) then (shape_Join.l0 k2 l0 l1 (x6_2.set ((ji35) : Int).toNat (ji34)) (y158.length : Int) (wrap64 (x26_2 + 1))) else (none)) else (none)) = some (r1, r2) := by first | (rw [hji35] at H; exact H) | (simp only [hji35] at H ⊢; exact H)
            (try rw [hji35] at A15)
            (try rw [hji35] at A16)
            have hji35w : (IntKind.i64.wrap ((wrap64 ((x6_2.length : Int) - 1)) - x26_2)) = ji35 := (i64_w _).trans hji35
            by_cases c36 : 0 ≤ (ji35)
            ·rw [if_pos c36] at H
             have c36b0 : decide (0 ≤ (ji35)) = true := decide_eq_true c36
             clear c36
             by_cases c37 : (ji35) < (x6_2.length : Int)
             ·rw [if_pos c37] at H
              have c37b0 : decide ((ji35) < (x6_2.length : Int)) = true := decide_eq_true c37
              (try (have c37b0_hl6_2 := c37b0; simp only [hl6_2] at c37b0_hl6_2))
              clear c37
              obtain ⟨y166, hy166⟩ : ∃ y_ : List Int, y_ = (x6_2.set ((ji35) : Int).toNat (ji34)) := ⟨_, rfl⟩
              replace H : (shape_Join.l0 k2 l0 l1 y166 (y158.length : Int) (wrap64 (x26_2 + 1))) = some (r1, r2) := by first | (rw [hy166]; with_reducible exact H) | (have H2_ := (Option.bind_some _ _).symm.trans H; rw [hy166]; with_reducible exact H2_) | (have H2_ := (Option.bind_some _ _).symm.trans H; with_reducible exact H2_) | with_reducible exact H | (rw [hy166]; exact H) | exact H
              have Ny166 := Aside0.mk hy166
              clear hy166
              have H' := Aside0.mk H
              clear H
              go_wp2_with (first | ((with_reducible refine gate_callee (f := 64) rfl ?_); refine gL_ (some 31) Try.func64 #[.slice A0 l0.length c0, .int .i64 x26_2] ?_; (with_reducible refine (shape_side.calls _ _ l0 x26_2 t162 _ ?side1 ?side2 A15.out).mono ?_); (case side1 => exact mvC_ ((Kd.C_below HR0.out HB.out))); (case side2 => exact HC0.out); rintro e w' ⟨rfl, ⟨nd, rfl⟩⟩; refine ⟨_, rfl, ?_⟩; (try (rw [drewN_self wr]; generalize hq_ : World.drewN wr _ = wr; have n0_ : Aside0 (Kd.R (Kd.int .i64) 3 wr w.heap.size (fun _ => True) (.slice Ao13 x6_2.length co13) x6_2) := ⟨by rw [← hq_]; exact (mvR_ HO_6.out)⟩; have n1_ : Aside0 (Below w.heap.size w wr) := ⟨by rw [← hq_]; exact (bq0_ HB.out)⟩; clear HO_6 HB hq_; have HO_6 := n0_; have HB := n1_; clear n0_ n1_))) | ((with_reducible refine gate_callee (f := 64) rfl ?_); refine gL_ (some 34) Try.func64 #[.slice A1 l1.length c1, .int .i64 x26_2] ?_; (with_reducible refine (shape_side.calls _ _ l1 x26_2 t163 _ ?side1 ?side2 A16.out).mono ?_); (case side1 => exact mvC_ ((Kd.C_below HR1.out HB.out))); (case side2 => exact HC1.out); rintro e w' ⟨rfl, ⟨nd, rfl⟩⟩; refine ⟨_, rfl, ?_⟩; (try (rw [drewN_self wr]; generalize hq_ : World.drewN wr _ = wr; have n0_ : Aside0 (Kd.R (Kd.int .i64) 3 wr w.heap.size (fun _ => True) (.slice Ao13 x6_2.length co13) x6_2) := ⟨by rw [← hq_]; exact (mvR_ HO_6.out)⟩; have n1_ : Aside0 (Below w.heap.size w wr) := ⟨by rw [← hq_]; exact (bq0_ HB.out)⟩; clear HO_6 HB hq_; have HO_6 := n0_; have HB := n1_; clear n0_ n1_)); have p38 : 0 ≤ ((ji35) : Int) := od_; have q38 : ((ji35) : Int) < ((x6_2.length : Int) : Int) := od_; obtain ⟨go38, co38, eo38, gb38, gl38, cl38, HG38⟩ := Kd.R_form HO_6.out (by omega); (first | cases eo38 | (injection eo38 with ea_ en_ ec_; (first | subst ea_ | (injection ea_ with ea_; subst ea_)); subst ec_; clear en_)); have GB38 := Aside0.mk gb38; have GG38 := Aside0.mk HG38; clear gb38 gl38 HG38; obtain ⟨hx38_0, hf38_0⟩ := Kd.R_celln 0 HO_6.out ((ji35) : Int) p38 q38; replace p38 := eq_true p38; replace q38 := eq_true q38; obtain ⟨hy39_, hz39_⟩ := Kd.R_celln 0 HO_6.out ((ji35) : Int) od_ od_; have HP39 := Kd.R_putg HO_6.out ((ji35) : Int) ji34) | ((with_reducible refine gate_store (t := 3) (p := 55) rfl ?_); refine store_event (t := 3) (p := 55) (v := ?vo_w40) (w1 := (wr.setCell ⟨go38, ((ji35) : Int).toNat, none⟩ (.int .i64 ji34))) ?hg ?ho ?hn ?hr ?_; (case ho => rfl); (case hg => rfl); (case hn => rfl); (case hr => first | (go_simp; done) | (go_simp; rfl)); intro w40 hw; have hg : wr.grownBy w40 (some go38) := (by rw [hw]; exact HP39.2); have hp_ : Kd.R (Kd.int .i64) 3 w40 w.heap.size (fun _ => True) (.slice (some ⟨go38, 0, none⟩) x6_2.length co13) y166 := (by rw [hw, Ny166.out]; exact HP39.1); clear HP39; replace HO_6 := Aside0.mk (hp_); replace HB := Aside0.mk ((by rw [hw]; exact below_set (HB.out) GB38.out : Below w.heap.size w w40)); clear hg hw hp_))
              (try simp only [← hl6_2])
              go_roundg k2
              case measure => have := HJ2.out; have := HK2.out; omega
              case rel => exact ⟨(y166), (wrap64 (x26_2 + 1)), (by first | rfl | (simp; done) | (simp [*]; done)), H', ⟨by have := HJ2.out; have := HK2.out; omega⟩, ⟨by (try simp only [hl6_2]); (with_reducible repeat (first | apply Kd.R_alloc | apply Kd.R_drewN | apply Kd.R_drew)); exact HO_6.out⟩, ⟨bq0_ HB.out⟩⟩
             ·rw [if_neg c37] at H
              exact absurd H (by simp)
            ·rw [if_neg c36] at H
             exact absurd H (by simp)
           ·rw [if_neg c33] at H
            have c33b0 : (t163 == 1) = false := beq_eq_false_iff_ne.mpr c33
            have c33b1 : (t163 != 1) = true := bne_iff_ne.mpr c33
            simp only [Option.some.injEq, Prod.mk.injEq] at H
            obtain ⟨rfl, rfl⟩ := H
            go_wp2_with (first | ((with_reducible refine gate_callee (f := 64) rfl ?_); refine gL_ (some 31) Try.func64 #[.slice A0 l0.length c0, .int .i64 x26_2] ?_; (with_reducible refine (shape_side.calls _ _ l0 x26_2 t162 _ ?side1 ?side2 A15.out).mono ?_); (case side1 => exact mvC_ ((Kd.C_below HR0.out HB.out))); (case side2 => exact HC0.out); rintro e w' ⟨rfl, ⟨nd, rfl⟩⟩; refine ⟨_, rfl, ?_⟩) | ((with_reducible refine gate_callee (f := 64) rfl ?_); refine gL_ (some 34) Try.func64 #[.slice A1 l1.length c1, .int .i64 x26_2] ?_; (with_reducible refine (shape_side.calls _ _ l1 x26_2 t163 _ ?side1 ?side2 A16.out).mono ?_); (case side1 => repeat (first | exact (Kd.C_below HR1.out (bq0_ HB.out)) | (with_reducible refine Kd.C_alloc ?_ _) | (with_reducible refine Kd.C_drewN ?_ _) | (with_reducible refine Kd.C_drew ?_))); (case side2 => exact HC1.out); rintro e w' ⟨rfl, ⟨nd, rfl⟩⟩; refine ⟨_, rfl, ?_⟩))
            go_ret2
            exact ⟨_, by first | rfl | (simp [errW_none, errW_some] <;> rfl) | (simp only [← hji8]; first | rfl | (simp [errW_none, errW_some] <;> rfl)) | (simp [*, errW_none, errW_some] <;> rfl), by first | exact Kd.R_nil _ _ _ _ _ | exact Kd.N_nil _ _ _ _ _ | exact Kd.V_nil _ _ _ _ _ | exact Kd.Q_nil _ _ _ _ _ | exact Kd.S_nil _ _ _ _ _, bq0_ HB.out⟩
        ·rw [if_neg c14] at H
         have c14b0 : decide (x26_2 < (y158.length : Int)) = false := decide_eq_false c14
         (try (have c14b0_hl6_2 := c14b0; simp only [hl6_2] at c14b0_hl6_2))
         clear c14
         replace H := Option.bind_eq_some_iff.mp H
         obtain ⟨t161, A410, H⟩ := H
         replace H : (if t161 = true then (some (x6_2, 0)) else (some (([] : List Int), 20))) = some (r1, r2) := H
         have A41 := Aside0.mk A410
         clear A410
         by_cases c42 : t161 = true
         ·subst c42
          have H1 : (some (x6_2, 0)) = some (r1, r2) := by rw [if_pos rfl] at H; exact H
          clear H
          have H := H1
          clear H1
          simp only [Option.some.injEq, Prod.mk.injEq] at H
          obtain ⟨rfl, rfl⟩ := H
          go_wp2_with (first | ((with_reducible refine gate_callee (f := 18) rfl ?_); refine gL_ (some 58) Try.func18 #[.slice Ao13 x6_2.length co13] ?_; (with_reducible refine (shape_Check.calls k2 _ _ x6_2 true _ ?side1 ?side2 A41.out).mono ?_); (case side1 => exact mvC_ ((Kd.R_reads' HO_6.out).2.2)); (case side2 => exact (Kd.R_reads' HO_6.out).2.1); rintro e w' ⟨rfl, ⟨nd, rfl⟩⟩; refine ⟨_, rfl, ?_⟩))
          go_ret2
          exact ⟨_, by first | rfl | (simp [errW_none, errW_some] <;> rfl) | (simp only [← hji8]; first | rfl | (simp [errW_none, errW_some] <;> rfl)) | (simp [*, errW_none, errW_some] <;> rfl), mvR_ HO_6.out, bq0_ HB.out⟩
         ·replace c42 := Bool.eq_false_iff.mpr c42
          subst c42
          have H1 : (some (([] : List Int), 20)) = some (r1, r2) := by rw [if_neg (show ¬ (false = true) by decide)] at H; exact H
          clear H
          have H := H1
          clear H1
          simp only [Option.some.injEq, Prod.mk.injEq] at H
          obtain ⟨rfl, rfl⟩ := H
          go_wp2_with (first | ((with_reducible refine gate_callee (f := 18) rfl ?_); refine gL_ (some 58) Try.func18 #[.slice Ao13 x6_2.length co13] ?_; (with_reducible refine (shape_Check.calls k2 _ _ x6_2 false _ ?side1 ?side2 A41.out).mono ?_); (case side1 => exact mvC_ ((Kd.R_reads' HO_6.out).2.2)); (case side2 => exact (Kd.R_reads' HO_6.out).2.1); rintro e w' ⟨rfl, ⟨nd, rfl⟩⟩; refine ⟨_, rfl, ?_⟩))
          go_ret2
          exact ⟨_, by first | rfl | (simp [errW_none, errW_some] <;> rfl) | (simp only [← hji8]; first | rfl | (simp [errW_none, errW_some] <;> rfl)) | (simp [*, errW_none, errW_some] <;> rfl), by first | exact Kd.R_nil _ _ _ _ _ | exact Kd.N_nil _ _ _ _ _ | exact Kd.V_nil _ _ _ _ _ | exact Kd.Q_nil _ _ _ _ _ | exact Kd.S_nil _ _ _ _ _, bq0_ HB.out⟩
     ·rw [if_neg c10] at H
      exact absurd H (by simp)
    ·rw [if_neg c9] at H
     exact absurd H (by simp)

def L47_0 : Array Bool := #[false, false, false, false, false, false, false, false, false, false, false, false]
def L47_1 : Array Bool := #[true, false, false, false, false, false, false, false, false, false, false, false]
def L47_2 : Array Bool := #[true, true, false, false, false, false, false, false, false, false, false, false]
def L47_3 : Array Bool := #[true, true, false, true, false, false, false, false, false, false, false, false]
def L47_4 : Array Bool := #[true, true, false, true, true, false, false, false, false, false, false, false]
def L47_5 : Array Bool := #[true, true, true, true, true, false, false, false, false, false, false, false]
def L47_6 : Array Bool := #[true, true, true, true, true, true, false, false, false, false, false, false]
def L47_7 : Array Bool := #[true, true, true, true, true, true, true, false, false, false, false, false]
def L47_8 : Array Bool := #[true, true, true, true, true, true, true, true, false, false, false, false]
def L47_9 : Array Bool := #[true, true, true, true, true, true, true, true, true, false, false, false]
def L47_10 : Array Bool := #[true, true, true, true, true, true, true, true, true, true, false, false]
def L47_11 : Array Bool := #[true, true, true, true, true, true, true, true, true, true, true, false]
def L47_12 : Array Bool := #[true, true, true, true, true, true, true, true, true, true, true, true]
/-! ### infer_both: function 47 -/
def infer_both.f (k : Nat) (l0 : List (List Int)) (l1 : List Int) : Option (List Int × Bool) := if 0 < (l0.length : Int) then (if 1 < (l0.length : Int) then ((shape_Join.f k (rd_L1 l0 0) (rd_L1 l0 1)).bind fun bt169 => (some (bt169.1, (bt169.2 == 0)))) else (none)) else (none)
theorem infer_both.mono : ∀ a0 a1 k, LeO (infer_both.f k a0 a1) (infer_both.f (k + 1) a0 a1) := by
  intro a0 a1 k
  unfold infer_both.f
  repeat' first
      | (with_reducible exact shape_Join.mono _ _ _)
      | (with_reducible exact LeO.refl _)
      | (with_reducible exact LeO.none _)
      | (with_reducible refine LeO.ite ?_ ?_)
      | (with_reducible refine LeO.bind ?_ (fun _ => ?_))
      | exact shape_Join.mono _ _ _
      | exact LeO.none _
      | refine LeO.ite ?_ ?_
      | refine LeO.bind ?_ (fun _ => ?_)
def infer_both.T1 : Bool × List (List Nat × List Nat) := (true, [([], []), ([0], [0]), ([1], [1]), ([], []), ([3], [3]), ([4], [4]), ([2, 5], [2, 5]), ([6], [6]), ([7], [7]), ([7], [7]), ([8, 6, 0, 1, 2, 3, 4, 5, 6, 7, 8], [8]), ([9, 10, 0, 1, 2, 3, 4, 5, 6, 7, 8, 9, 10], [9])])
def infer_both.B1 : List Nat := [0, 1, 3, 0, 8, 24, 63, 127, 255, 255, 511, 2047]
theorem infer_both.tab1 : rtab .any (opsOf Try.f47 1) = infer_both.T1 := by kernel_rfl
theorem infer_both.bits1 : waitsOk infer_both.T1.2 infer_both.B1 = true := by kernel_rfl
set_option maxHeartbeats 8000000 in
set_option maxRecDepth 100000 in
theorem infer_both.calls (k : Nat) (A0 : Option Addr) (c0 : Nat) (l0 : List (List Int)) (A1 : Option Addr) (c1 : Nat) (l1 : List Int) (r1 : List Int) (r2 : Bool) (w : World) (hr0 : Kd.C (Kd.slice 3 (Kd.int .i64)) w A0 l0.length l0) (hc0 : l0.length ≤ c0) (hr1 : Kd.C (Kd.int .i64) w A1 l1.length l1) (hc1 : l1.length ≤ c1) (h : infer_both.f k l0 l1 = some (r1, r2)) :
    Calls Try.prog 47 #[.slice A0 l0.length c0, .slice A1 l1.length c1] w fun e w' => ∃ v0_ : Value, e = .returned (.tuple #[v0_, .bool r2]) ∧ Kd.R (Kd.int .i64) 3 w' w.heap.size (fun _ => True) v0_ r1 ∧ Below w.heap.size w w' := by
  have HR0 := Aside0.mk hr0
  have HC0 := Aside0.mk hc0
  clear hr0 hc0
  have HR1 := Aside0.mk hr1
  have HC1 := Aside0.mk hc1
  clear hr1 hc1
  have HB := Aside0.mk (Below.refl w.heap.size w)
  have H : (if 0 < (l0.length : Int) then (if 1 < (l0.length : Int) then ((shape_Join.f k (rd_L1 l0 0) (rd_L1 l0 1)).bind fun bt169 => (some (bt169.1, (bt169.2 == 0)))) else (none)) else (none)) = some (r1, r2) := h
  clear h
  by_cases c3 : 0 < (l0.length : Int)
  · rw [if_pos c3] at H
    have c3b0 : decide (0 < (l0.length : Int)) = true := decide_eq_true c3
    have c3b1 : decide (0 < l0.length) = true := decide_eq_true (by omega)
    clear c3
    by_cases c4 : 1 < (l0.length : Int)
    · rw [if_pos c4] at H
      have c4b0 : decide (1 < (l0.length : Int)) = true := decide_eq_true c4
      have c4b1 : decide (1 < l0.length) = true := decide_eq_true (by omega)
      clear c4
      replace H := Option.bind_eq_some_iff.mp H
      obtain ⟨⟨t169, t170⟩, A50, H⟩ := H
      replace H : (some (t169, (t170 == 0))) = some (r1, r2) := H
      have A5 := Aside0.mk A50
      clear A50
      simp only [Option.some.injEq, Prod.mk.injEq] at H
      obtain ⟨rfl, rfl⟩ := H
      go_enter Try.func47, Try.ntmps47
      try go_wp2
      replace HB := Aside0.mk (below_drew1 HB.out)
      have p167 : 0 ≤ (0 : Int) := (by omega)
      have q167 : 0 < (l0.length : Int) := of_decide_eq_true (by first | (with_reducible assumption) | assumption)
      obtain ⟨ad167, A167_0, c167_0, e167, hx167_0, hl167_0, hi167_0⟩ := at_L1 HR0.out 0 p167 q167
      have hw167_0 := hx167_0
      (try rw [show ((0 : Int)).toNat = 0 from rfl] at hw167_0)
      (try rw [show 0 * 1 = 0 from rfl] at hw167_0)
      (try rw [Addr.add_zero'] at hw167_0)
      cases e167
      have qi167 : (0 < l0.length) = True := eq_true (by omega)
      (try rw [show ((0 : Int)).toNat = 0 from rfl] at hx167_0)
      (try rw [Addr.add_zero'] at hx167_0)
      replace hx167_0 := (HB.out.cell (World.block_lt_of_cell? w _ hx167_0)).trans hx167_0
      have HR167_0 := Aside0.mk hi167_0
      have HC167_0 := Aside0.mk hl167_0
      clear hi167_0 hl167_0
      replace p167 := eq_true p167
      replace q167 := eq_true q167
      have p168 : 0 ≤ (1 : Int) := (by omega)
      have q168 : 1 < (l0.length : Int) := of_decide_eq_true (by first | (with_reducible assumption) | assumption)
      obtain ⟨ad168, A168_0, c168_0, e168, hx168_0, hl168_0, hi168_0⟩ := at_L1 HR0.out 1 p168 q168
      have hw168_0 := hx168_0
      (try rw [show ((1 : Int)).toNat = 1 from rfl] at hw168_0)
      (try rw [show 1 * 1 = 1 from rfl] at hw168_0)
      (try simp only [Nat.reduceMul, Nat.reduceEqDiff, Go.Addr.add, ↓reduceIte] at hw168_0)
      obtain rfl : ad167 = ad168 := (by injection e168)
      (try simp only [show (1 : Int).toNat = 1 from rfl, Nat.reduceMul, Nat.reduceEqDiff, Go.Addr.add, ↓reduceIte] at hx168_0)
      have qi168 : (1 < l0.length) = True := eq_true (by omega)
      (try rw [show ((1 : Int)).toNat = 1 from rfl] at hx168_0)
      replace hx168_0 := (HB.out.cell (World.block_lt_of_cell? w _ hx168_0)).trans hx168_0
      have HR168_0 := Aside0.mk hi168_0
      have HC168_0 := Aside0.mk hl168_0
      clear hi168_0 hl168_0
      replace p168 := eq_true p168
      replace q168 := eq_true q168
      refine start_ (n := 12) (S := fun w' => w'.cell? ad167 = some (.slice A167_0 (rd_L1 l0 0).length c167_0) ∧ w'.cell? ⟨ad167.block, ad167.off + 1, none⟩ = some (.slice A168_0 (rd_L1 l0 1).length c168_0)) (ds := []) L47_0 (by kernel_rfl) rfl rfl ⟨((HB.out.cell (World.block_lt_of_cell? w _ hw167_0)).trans hw167_0), ((HB.out.cell (World.block_lt_of_cell? w _ hw168_0)).trans hw168_0)⟩ (fun hHeld => ?_); refine with_tabW infer_both.tab1 infer_both.bits1 (fun HT_ HW_ => ?_)
      generalize w.drew = w6 at HB HR167_0 HR168_0 hx167_0 hx168_0 hHeld ⊢
      refine pure_ (i := 0) (N := some 9) (v := ?_) (a' := ?_) L47_1 rfl rfl (any_of HT_.out (by kernel_rfl)) (fun _ _ _ h => h) (Or.inl ⟨by rfl, ?_⟩) ?_ ?_
      rotate_left
      · intro w'
        go_simp
        with_reducible rfl
      rotate_left
      · simp only [Act.put, List.setIfInBounds_toArray, List.set_cons_zero, List.set_cons_succ, i64_w, i32_w]
        rfl
      refine pure_ (i := 1) (N := some 10) (v := ?_) (a' := ?_) L47_2 rfl rfl (any_of HT_.out (by kernel_rfl)) (fun _ _ _ h => h) (Or.inl ⟨by rfl, ?_⟩) ?_ ?_
      rotate_left
      · intro w'
        go_simp
        with_reducible rfl
      rotate_left
      · simp only [Act.put, List.setIfInBounds_toArray, List.set_cons_zero, List.set_cons_succ, i64_w, i32_w]
        rfl
      refine pure_ (i := 3) (N := some 12) (v := ?_) (a' := ?_) L47_3 rfl rfl (any_of HT_.out (by kernel_rfl)) (fun _ _ _ h => h) (Or.inl ⟨by rfl, ?_⟩) ?_ ?_
      rotate_left
      · intro w'
        go_simp
        with_reducible rfl
      rotate_left
      · simp only [Act.put, List.setIfInBounds_toArray, List.set_cons_zero, List.set_cons_succ, i64_w, i32_w]
        rfl
      refine pure_ (i := 4) (N := some 13) (v := ?_) (a' := ?_) L47_4 rfl rfl (any_of HT_.out (by kernel_rfl)) (fun _ _ _ h => h) (Or.inl ⟨by rfl, ?_⟩) ?_ ?_
      rotate_left
      · intro w'
        go_simp
        with_reducible rfl
      rotate_left
      · simp only [Act.put, List.setIfInBounds_toArray, List.set_cons_zero, List.set_cons_succ, i64_w, i32_w]
        rfl
      refine take_ (i := 2) (N := some 11) (v := ?_) (a' := ?_) L47_5 rfl rfl (take_ofW HT_.out HW_.out (by kernel_rfl)) (fun _ _ _ h => h) (Or.inl ⟨by rfl, ?_⟩) hHeld ?_ ?_
      rotate_left
      · rintro w' ⟨s0, s1⟩
        go_simp
        with_reducible rfl
      rotate_left
      · simp only [Act.put, List.setIfInBounds_toArray, List.set_cons_zero, List.set_cons_succ, i64_w, i32_w]
        rfl
      refine take_ (i := 5) (N := some 14) (v := ?_) (a' := ?_) L47_6 rfl rfl (take_ofW HT_.out HW_.out (by kernel_rfl)) (fun _ _ _ h => h) (Or.inl ⟨by rfl, ?_⟩) hHeld ?_ ?_
      rotate_left
      · rintro w' ⟨s0, s1⟩
        go_simp
        with_reducible rfl
      rotate_left
      · simp only [Act.put, List.setIfInBounds_toArray, List.set_cons_zero, List.set_cons_succ, i64_w, i32_w]
        rfl
      refine one_ (i := 6) (N := some 15) L47_7 rfl rfl (one_of HT_.out (by kernel_rfl)) (by decide) (fun K hK => ?_)
      refine goes_ Try.func61 (by kernel_rfl) rfl #[.slice A167_0 (rd_L1 l0 0).length c167_0, .slice A168_0 (rd_L1 l0 1).length c168_0] (by rfl) rfl rfl (by (try simp only [List.map_toArray, List.map_cons, List.map_nil]); first | done | rfl | (simp only [List.length_drop, List.length_take]; rfl)) ?_
      with_reducible refine (shape_Join.calls k _ _ (rd_L1 l0 0) _ _ (rd_L1 l0 1) t169 t170 _ ?side1 ?side2 ?side3 ?side4 A5.out).mono ?_
      (case side1 => repeat (first | exact (Kd.C_below HR167_0.out HB.out) | (with_reducible refine Kd.C_alloc ?_ _) | (with_reducible refine Kd.C_drewN ?_ _) | (with_reducible refine Kd.C_drew ?_)))
      (case side2 => exact HC167_0.out)
      (case side3 => repeat (first | exact (Kd.C_below HR168_0.out HB.out) | (with_reducible refine Kd.C_alloc ?_ _) | (with_reducible refine Kd.C_drewN ?_ _) | (with_reducible refine Kd.C_drew ?_)))
      (case side4 => exact HC168_0.out)
      rintro e w7 ⟨v171, rfl, ho0, hb⟩
      refine ⟨_, rfl, ?_⟩
      have HO172 := Aside0.mk (Kd.R_lower ho0 (below_size (bq0_ HB.out)))
      replace HB := Aside0.mk (below_step (bq0_ HB.out) hb)
      (try clear hb)
      (try clear hb2)
      (try clear hk)
      (try clear hi)
      (try clear ho0)
      refine hK.out _ _ ⟨((HB.out.cell (World.block_lt_of_cell? w _ hw167_0)).trans hw167_0), ((HB.out.cell (World.block_lt_of_cell? w _ hw168_0)).trans hw168_0)⟩ (fun hHeld => ?_)
      clear hK K
      refine norm_ (a' := ?_) ?_ ?_
      rotate_left
      · show Act.put _ (some 15) _ = _
        simp only [Act.put, List.setIfInBounds_toArray, List.set_cons_zero, List.set_cons_succ, i64_w, i32_w]
        rfl
      refine pure_ (i := 7) (N := some 8) (v := ?_) (a' := ?_) L47_8 rfl rfl (any_of HT_.out (by kernel_rfl)) (fun _ _ _ h => h) (Or.inl ⟨by rfl, ?_⟩) ?_ ?_
      rotate_left
      · intro w'
        go_simp
        with_reducible rfl
      rotate_left
      · simp only [Act.put, List.setIfInBounds_toArray, List.set_cons_zero, List.set_cons_succ, i64_w, i32_w]
        rfl
      refine pure_ (i := 8) (N := some 16) (v := ?_) (a' := ?_) L47_9 rfl rfl (any_of HT_.out (by kernel_rfl)) (fun _ _ _ h => h) (Or.inl ⟨by rfl, ?_⟩) ?_ ?_
      rotate_left
      · intro w'
        go_simp
        with_reducible rfl
      rotate_left
      · simp only [Act.put, List.setIfInBounds_toArray, List.set_cons_zero, List.set_cons_succ, i64_w, i32_w]
        rfl
      refine pure_ (i := 9) (N := some 17) (v := ?_) (a' := ?_) L47_10 rfl rfl (any_of HT_.out (by kernel_rfl)) (fun _ _ _ h => h) (Or.inl ⟨by rfl, ?_⟩) ?_ ?_
      rotate_left
      · intro w'
        go_simp
        with_reducible rfl
      rotate_left
      · simp only [Act.put, List.setIfInBounds_toArray, List.set_cons_zero, List.set_cons_succ, i64_w, i32_w]
        rfl
      refine pure_ (i := 10) (N := some 6) (v := ?_) (a' := ?_) L47_11 rfl rfl (any_of HT_.out (by kernel_rfl)) (fun _ _ _ h => h) (Or.inl ⟨by rfl, ?_⟩) ?_ ?_
      rotate_left
      · intro w'
        go_simp
        with_reducible rfl
      rotate_left
      · simp only [Act.put, List.setIfInBounds_toArray, List.set_cons_zero, List.set_cons_succ, i64_w, i32_w]
        rfl
      refine pure_ (i := 11) (N := some 7) (v := ?_) (a' := ?_) L47_12 rfl rfl (any_of HT_.out (by kernel_rfl)) (fun _ _ _ h => h) (Or.inl ⟨by rfl, ?_⟩) ?_ ?_
      rotate_left
      · intro w'
        go_simp
        with_reducible rfl
      rotate_left
      · simp only [Act.put, List.setIfInBounds_toArray, List.set_cons_zero, List.set_cons_succ, i64_w, i32_w]
        rfl
      refine done_ (done_of HT_.out (by kernel_rfl)) ?_
      try go_wp2
      go_ret2
      exact ⟨_, by first | rfl | (simp <;> rfl) | (simp [*] <;> rfl), mvR_ HO172.out, bq0_ HB.out⟩
    · rw [if_neg c4] at H
      exact absurd H (by simp)
  · rw [if_neg c3] at H
    exact absurd H (by simp)

/-! ### infer_first: function 48 -/
def infer_first.f (l0 : List (List Int)) (l1 : List Int) : Option (List Int × Bool) := if 0 < (l0.length : Int) then ((slices_Clone_int_int.f (rd_L1 l0 0)).bind fun t174 => (some (t174, true))) else (none)
set_option maxHeartbeats 8000000 in
set_option maxRecDepth 100000 in
theorem infer_first.calls (A0 : Option Addr) (c0 : Nat) (l0 : List (List Int)) (A1 : Option Addr) (c1 : Nat) (l1 : List Int) (r1 : List Int) (r2 : Bool) (w : World) (hr0 : Kd.C (Kd.slice 3 (Kd.int .i64)) w A0 l0.length l0) (hc0 : l0.length ≤ c0) (hr1 : Kd.C (Kd.int .i64) w A1 l1.length l1) (hc1 : l1.length ≤ c1) (h : infer_first.f l0 l1 = some (r1, r2)) :
    Calls Try.prog 48 #[.slice A0 l0.length c0, .slice A1 l1.length c1] w fun e w' => ∃ v0_ : Value, e = .returned (.tuple #[v0_, .bool r2]) ∧ Kd.R (Kd.int .i64) 3 w' w.heap.size (fun _ => True) v0_ r1 ∧ Below w.heap.size w w' := by
  have HR0 := Aside0.mk hr0
  have HC0 := Aside0.mk hc0
  clear hr0 hc0
  have HR1 := Aside0.mk hr1
  have HC1 := Aside0.mk hc1
  clear hr1 hc1
  have HB := Aside0.mk (Below.refl w.heap.size w)
  have H : (if 0 < (l0.length : Int) then ((slices_Clone_int_int.f (rd_L1 l0 0)).bind fun t174 => (some (t174, true))) else (none)) = some (r1, r2) := h
  clear h
  by_cases c3 : 0 < (l0.length : Int)
  · rw [if_pos c3] at H
    have c3b0 : decide (0 < (l0.length : Int)) = true := decide_eq_true c3
    have c3b1 : decide (0 < l0.length) = true := decide_eq_true (by omega)
    clear c3
    replace H := Option.bind_eq_some_iff.mp H
    obtain ⟨t174, A40, H⟩ := H
    replace H : (some (t174, true)) = some (r1, r2) := H
    have A4 := Aside0.mk A40
    clear A40
    simp only [Option.some.injEq, Prod.mk.injEq] at H
    obtain ⟨rfl, rfl⟩ := H
    have p173 : 0 ≤ (0 : Int) := (by omega)
    have q173 : 0 < (l0.length : Int) := of_decide_eq_true (by first | (with_reducible assumption) | assumption)
    obtain ⟨ad173, A173_0, c173_0, e173, hx173_0, hl173_0, hi173_0⟩ := at_L1 HR0.out 0 p173 q173
    cases e173
    have qi173 : (0 < l0.length) = True := eq_true (by omega)
    (try rw [show ((0 : Int)).toNat = 0 from rfl] at hx173_0)
    (try rw [Addr.add_zero'] at hx173_0)
    have HR173_0 := Aside0.mk hi173_0
    have HC173_0 := Aside0.mk hl173_0
    clear hi173_0 hl173_0
    replace p173 := eq_true p173
    replace q173 := eq_true q173
    go_enter Try.func48, Try.ntmps48
    go_wp2_with (first | ((with_reducible refine gate_callee (f := 40) rfl ?_); refine goesL_ (some 9) rfl rfl Try.func40 (by kernel_rfl) rfl #[.slice A173_0 (rd_L1 l0 0).length c173_0] rfl (by (try simp only [List.map_toArray, List.map_cons, List.map_nil]); first | done | rfl | (simp only [List.length_drop, List.length_take]; rfl)) ?_; (with_reducible refine (slices_Clone_int_int.calls _ _ (rd_L1 l0 0) t174 _ ?side1 ?side2 A4.out).mono ?_); (case side1 => repeat (first | exact HR173_0.out | (with_reducible refine Kd.C_alloc ?_ _) | (with_reducible refine Kd.C_drewN ?_ _) | (with_reducible refine Kd.C_drew ?_))); (case side2 => exact HC173_0.out); rintro e w5 ⟨v175, rfl, ho0, hb⟩; refine ⟨_, rfl, ?_⟩; have n0_ := Aside0.mk (Kd.R_lower ho0 (below_size (by repeat (first | (with_reducible first | exact HB.out | apply below_alloc | apply pw_below_drewN | apply below_drew1) | exact HB.out)))); have n1_ := Aside0.mk (below_step (by repeat (first | (with_reducible first | exact HB.out | apply below_alloc | apply pw_below_drewN | apply below_drew1) | exact HB.out)) hb); clear HB; have HO176 := n0_; have HB := n1_; clear n0_ n1_; (try clear hb); (try clear hb2); (try clear hk); (try clear hi); (try clear ho0)))
    go_ret2
    exact ⟨_, by first | rfl | (simp [errW_none, errW_some] <;> rfl) | (simp [*, errW_none, errW_some] <;> rfl), by (with_reducible repeat (first | apply Kd.R_alloc | apply Kd.R_drewN | apply Kd.R_drew)); exact HO176.out, by repeat (first | (with_reducible first | exact HB.out | apply below_alloc | apply pw_below_drewN | apply below_drew1) | exact HB.out)⟩
  · rw [if_neg c3] at H
    exact absurd H (by simp)

/-! ### slices_Delete_int_int: function 63 (given) -/
/-- A row's cells, some of them written over. -/
def over (cs : Array Value) (o : Nat) (vs : List Value) : Array Value := (cs.toList.take o ++ vs ++ cs.toList.drop (o + vs.length)).toArray
theorem over_nil (cs : Array Value) (o : Nat) : over cs o [] = cs := by simp [over]
theorem over_cons (cs : Array Value) (o : Nat) (v : Value) (vs : List Value) (h : o < cs.size) : over (cs.setIfInBounds o v) (o + 1) vs = over cs o (v :: vs) := by
  unfold over
  congr 1
  have hl : o < cs.toList.length := by simpa using h
  rw [Array.toList_setIfInBounds, List.take_succ_eq_append_getElem (by simpa using h), List.take_set_of_le (Nat.le_refl _), List.drop_set_of_lt (by omega)]
  simp [Nat.add_assoc, Nat.add_comm 1]
theorem over_size {cs : Array Value} {o : Nat} {vs : List Value} (h : o + vs.length ≤ cs.size) : (over cs o vs).size = cs.size := by simp [over]; omega
theorem blk_over {g : Nat} {t : TypeId} : ∀ (vs : List Value) (o : Nat) (w : World) (cs : Array Value), w.heap[g]? = some (.cells cs t (0, 0)) → o + vs.length ≤ cs.size → (w.setCells g o vs).heap[g]? = some (.cells (over cs o vs) t (0, 0))
  | [], o, w, cs, h, _ => by rw [over_nil]; exact h
  | v :: vs, o, w, cs, h, hl => by
    have hl' : o + 1 + vs.length ≤ cs.size := by simp at hl; omega
    rw [← over_cons cs o v vs (by omega)]
    exact blk_over vs (o + 1) _ _ (blk_put h o v rfl) (by simpa using hl')
theorem below_cells {B g : Nat} (hg : B ≤ g) {w0 : World} : ∀ (vs : List Value) (o : Nat) (w : World), Below B w0 w → Below B w0 (w.setCells g o vs)
  | [], _, _, h => h
  | v :: vs, o, w, h => below_cells hg vs (o + 1) _ (h.setCell (p := ⟨g, o, none⟩) hg v)
theorem dl_info : (Try.prog.info? 3).map (fun i => (i.zero, i.size, i.bytes)) = some (some (.int .i64 0), 1, 8) := by kernel_rfl
theorem dl_zero : ∀ w, (zeroValue 3).run Try.prog w = .ok (.int .i64 0) w := fun w => by kernel_rfl
theorem enc_cell {l : List Int} {cs : Array Value} (ht : cs.toList.take l.length = encs (Value.int .i64) l) {k : Nat} (hk : k < l.length) : cs[k]? = some (.int .i64 (rd l (k : Int))) := by
  have h1 : (cs.toList.take l.length)[k]? = cs.toList[k]? := List.getElem?_take_of_lt hk
  rw [ht] at h1
  rw [← Array.getElem?_toList, ← h1]
  simp [encs, rd, hk]
set_option maxHeartbeats 8000000 in
set_option maxRecDepth 1000000 in
/-- slices.Delete of a row of one's own. -/
theorem slices_Delete_int_int.own (v : Value) (l : List Int) (i j B : Nat) (ok : Nat → Prop) (w : World) (hR : Kd.R (Kd.int .i64) 3 w B ok v l) (hij : i < j) (hj : j ≤ l.length) :
    Calls Try.prog 63 #[v, .int .i64 i, .int .i64 j] w fun e w' => ∃ v' : Value, e = .returned v' ∧ Kd.R (Kd.int .i64) 3 w' B ok v' (l.take i ++ l.drop j) ∧ Below B w w' := by
  obtain ⟨i0, hi0, hz0, hz1, hz2⟩ := info_parts dl_info
  obtain ⟨hlen, ⟨rfl, h0⟩ | ⟨g, cap, cur, rfl, hg, hb, hcap, hcm, hcs, htk⟩⟩ := Kd.own_of_R hR
  · omega
  have hok := hR.1 g rfl
  rw [Nat.mul_one] at hcs htk
  obtain ⟨news, hnews⟩ : ∃ news, news = encs (Value.int .i64) (l.drop j) := ⟨_, rfl⟩
  have hnl : news.length = l.length - j := by rw [hnews]; simp [encs]
  have hng : ∀ t, t < l.length - j → news[t]? = some (.int .i64 (rd l ((j + t : Nat) : Int))) := fun t ht => by
    have hjt : j + t < l.length := by omega
    rw [hnews]
    unfold rd
    rw [Int.toNat_natCast]
    simp [encs, hjt]
  obtain ⟨A, hA, hsrc⟩ : ∃ A : Addr, (if cap = j then some (⟨g, 0, none⟩ : Addr) else some ⟨g, j, none⟩) = some A ∧ Hid (∀ t u, news[t]? = some u → w.drew.cell? (A.add t) = some u) := by
    by_cases h : cap = j
    · refine ⟨⟨g, 0, none⟩, by simp [h], fun t u hu => ?_⟩
      have h0 : news.length = 0 := by rw [hnl]; omega
      rw [List.length_eq_zero_iff.1 h0] at hu
      simp at hu
    · refine ⟨⟨g, j, none⟩, by simp [h], fun t u hu => ?_⟩
      have ht : t < l.length - j := by
        have := (List.getElem?_eq_some_iff.1 hu).1
        rwa [hnl] at this
      rw [hng t ht] at hu
      rw [Addr.add_lit]
      exact ((blk_cell hb (j + t)).trans (enc_cell htk (by omega))).trans hu
  have s1 : Hid (news.length = (l.length - j) * 1) := by rw [Nat.mul_one]; exact hnl
  have s2 : Hid (∀ u ∈ news, u.oneCell' = true) := by
    intro u hu
    rw [hnews] at hu
    obtain ⟨x, _, rfl⟩ := List.mem_map.1 hu
    rfl
  have s3 : Hid (∀ t, t < news.length → (w.drew.cell? ⟨g, 0 + i * 1 + t, none⟩).isSome = true ∧ w.drew.frozen? ⟨g, 0 + i * 1 + t, none⟩ = false) := by
    intro t ht
    rw [hnl] at ht
    refine ⟨?_, blk_frozen hb _⟩
    show (w.cell? _).isSome = true
    rw [blk_cell hb, Nat.zero_add, Nat.mul_one, enc_cell htk (by omega)]
    rfl
  obtain ⟨W1, hW1⟩ : ∃ W1, W1 = w.drew.setCells g (0 + i * 1) news := ⟨_, rfl⟩
  have hb1 : W1.heap[g]? = some (.cells (over cur i news) 3 (0, 0)) := by
    rw [hW1, Nat.zero_add, Nat.mul_one]
    exact blk_over news i w.drew cur hb (by omega)
  have hbl1 : Below B w W1 := by rw [hW1]; exact below_cells hg _ _ _ (below_drew1 (Below.refl _ _))
  have hos : (over cur i news).size = cap := by rw [over_size (by omega)]; exact hcs
  obtain ⟨m, hm⟩ : ∃ m, m = i + (l.length - j) := ⟨_, rfl⟩
  have hcl : ∀ ty, (Builtin.clear_ #[23] ty #[.slice (some ⟨g, i + (l.length - j), none⟩) (l.length - (i + (l.length - j))) (cap - (i + (l.length - j)))]).run Try.prog W1 = .ok (.tuple #[]) (W1.setCells g (i + (l.length - j)) (List.replicate (l.length - (i + (l.length - j))) (.int .i64 0))) :=
    fun ty => Lib.run_clear_slice W1 _ _ ty _ Try.underlying23 dl_zero rfl rfl g (i + (l.length - j)) _ _ (by omega) (fun t ht => by rw [blk_cell hb1]; simp [hos]; omega) (fun t ht => blk_frozen hb1 _)
  have HW := Aside0.mk hW1
  have HB := Aside0.mk hb1
  have HBl := Aside0.mk hbl1
  have HCS := Aside0.mk hcs
  have HTK := Aside0.mk htk
  have HOS := Aside0.mk hos
  have HNL := Aside0.mk hnl
  have HN := Aside0.mk hnews
  have HB0 := Aside0.mk hb
  have HOK := Aside0.mk hok
  have hic : i ≤ cap := by omega
  have hjc : j ≤ cap := by omega
  have hcap' : cap ≤ 9223372036854775807 := by unfold maxLen at hcm; exact hcm
  clear hW1 hb1 hbl1 hcs htk hos hnl hnews hb hok hng hR hlen hm
  go_enter Try.func63, Try.ntmps63
  go_wp2_with fail
  go_region_law (refine step_append_room rfl (.tmp 22) (.tmp 25) 23 rfl 3 i0 1 Try.underlying23 hi0 hz1 g 0 i cap (by simp [Act.eval, Act.put]) A (l.length - j) (cap - j) news (by simp [Act.eval, Act.put]) s1.out hsrc.out s2.out (by omega) s3.out ?_; rw [← HW.out])
  go_wp2_with fail
  go_ret
  refine ⟨_, rfl, ?_, below_cells hg _ _ _ HBl.out⟩
  have hll : (l.take i ++ l.drop j).length = i + (l.length - j) := by simp; omega
  have hcs := HCS.out
  have hnl := HNL.out
  have hos := HOS.out
  have hbk := blk_over (List.replicate (l.length - (i + (l.length - j))) (.int .i64 0)) (i + (l.length - j)) W1 _ HB.out (by rw [hos]; simp; omega)
  refine Kd.R_of_own (v := .slice (some ⟨g, 0, none⟩) (i + (l.length - j)) cap) ?_ (fun k hk => by simp [Value.ownBlock] at hk; subst hk; exact HOK.out)
  rw [hll]
  refine ⟨by simp [encs]; omega, .inr ⟨g, cap, _, rfl, hg, hbk, by omega, hcm, ?_, ?_⟩⟩
  · rw [over_size (by rw [hos]; simp; omega), hos, Nat.mul_one]
  · have e1 : (over cur i news).toList.take (i + (l.length - j)) = encs (Value.int .i64) (l.take i ++ l.drop j) := by
      have e2 : cur.toList.take i = encs (Value.int .i64) (l.take i) := by
        have := congrArg (List.take i) HTK.out
        rw [List.take_take, show min i l.length = i by omega] at this
        rw [this]
        simp [encs, List.map_take]
      unfold over
      rw [e2, HN.out, List.toList_toArray]
      rw [List.take_append_of_le_length (by simp [encs]; omega), List.take_of_length_le (by simp [encs]; omega)]
      simp [encs]
    have hsz : (cur.toList.take i ++ news ++ cur.toList.drop (i + news.length)).toArray.toList.length = cap := by
      have h2 := hos
      unfold over at h2
      rw [← h2]
      simp
    unfold over at e1 ⊢
    generalize (cur.toList.take i ++ news ++ cur.toList.drop (i + news.length)).toArray = Z at e1 hsz ⊢
    rw [Nat.mul_one, List.toList_toArray, List.append_assoc, List.take_append_of_le_length (by rw [List.length_take, hsz]; omega), List.take_take, Nat.min_self]
    exact e1


end Go.Proofs.Ytalmgghhpgfgoaa.A
