/- Lean functions that answer as the Go functions do, and the proofs that they do; no conditions. Written by this session's own driver: a scratch copy of the kit's print with the session's additions (wip/xprint). -/
import Derived.Test.YtchmfdaebohplaaAx0
import Derived.Test.YtchmfdaebohplaaAx4
import Derived.Test.YtchmfdaebohplaaAx5
namespace Go.Proofs.Ytchmfdaebohplaa.A
open Go.RowKit Go.Proofs.YtchmfdaebohplaaW.PrintWords Go.Proofs.YtchmfdaebohplaaW.PrintLast Go.Proofs.YtchmfdaebohplaaW.PrintMore
attribute [local go_sem] max2_int min2_int max_two min_two max_three min_three max_four min_four   -- for this text's walks alone
set_option linter.unusedVariables false
set_option linter.unusedSimpArgs false

/-! ### fullerref10_Same: function 13 -/
def fullerref10_Same.l0 : Nat → List (S36) → List (S36) → Int → Option (Bool)
  | 0, _, _, _ => none
  | k + 1, x0, x1, x5 => if x5 < (x0.length : Int) then (if 0 ≤ x5 then (if x5 < (x1.length : Int) then ((fullerref02_Same.f k ((rd_T36 x0 x5).f1) ((rd_T36 x1 x5).f1)).bind fun t148 => (if t148 = true then (if ((rd_T36 x0 x5).f0) = ((rd_T36 x1 x5).f0) then ((fullerref02_Same.f k ((rd_T36 x0 x5).f2) ((rd_T36 x1 x5).f2)).bind fun t153 => (if t153 = true then (fullerref10_Same.l0 k x0 x1 (wrap64 (x5 + 1))) else (some false))) else (some false)) else (some false))) else (none)) else (none)) else (some true)
def fullerref10_Same.f (k : Nat) (l0 : List (S36)) (l1 : List (S36)) : Option (Bool) := if (l0.length : Int) = (l1.length : Int) then (fullerref10_Same.l0 k l0 l1 0) else (some false)
theorem fullerref10_Same.mono_l : ∀ k, (∀ y0 y1 y2, LeO (fullerref10_Same.l0 k y0 y1 y2) (fullerref10_Same.l0 (k + 1) y0 y1 y2))
  | 0 => fun _ _ _ r h => by simp [fullerref10_Same.l0] at h
  | k + 1 => by
    have ih0 := fullerref10_Same.mono_l k
    · intro y0 y1 y2
      unfold fullerref10_Same.l0
      repeat' first
      | (with_reducible exact ih0 _ _ _)
      | (with_reducible exact fullerref02_Same.mono _ _ _)
      | (with_reducible exact LeO.refl _)
      | (with_reducible exact LeO.none _)
      | (with_reducible refine LeO.ite ?_ ?_)
      | (with_reducible refine LeO.bind ?_ (fun _ => ?_))
      | exact ih0 _ _ _
      | exact fullerref02_Same.mono _ _ _
      | exact LeO.none _
      | refine LeO.ite ?_ ?_
      | refine LeO.bind ?_ (fun _ => ?_)
theorem fullerref10_Same.mono : ∀ a0 a1 k, LeO (fullerref10_Same.f k a0 a1) (fullerref10_Same.f (k + 1) a0 a1) := by
  intro a0 a1 k
  have ih0 := fullerref10_Same.mono_l k
  unfold fullerref10_Same.f
  repeat' first
      | (with_reducible exact ih0 _ _ _)
      | (with_reducible exact fullerref02_Same.mono _ _ _)
      | (with_reducible exact LeO.refl _)
      | (with_reducible exact LeO.none _)
      | (with_reducible refine LeO.ite ?_ ?_)
      | (with_reducible refine LeO.bind ?_ (fun _ => ?_))
      | exact ih0 _ _ _
      | exact fullerref02_Same.mono _ _ _
      | exact LeO.none _
      | refine LeO.ite ?_ ?_
      | refine LeO.bind ?_ (fun _ => ?_)
set_option maxHeartbeats 8000000 in
set_option maxRecDepth 100000 in
theorem fullerref10_Same.calls (k : Nat) (A0 : Option Addr) (c0 : Nat) (l0 : List (S36)) (A1 : Option Addr) (c1 : Nat) (l1 : List (S36)) (r : Bool) (w : World) (hr0 : Kd.C k36 w A0 l0.length l0) (hc0 : l0.length ≤ c0) (hr1 : Kd.C k36 w A1 l1.length l1) (hc1 : l1.length ≤ c1) (h : fullerref10_Same.f k l0 l1 = some r) :
    Calls Try.prog 13 #[.slice A0 l0.length c0, .slice A1 l1.length c1] w fun e w' => e = .returned (.bool r) ∧ Drawn0 w w' := by
  have HR0 := Aside0.mk hr0
  have HC0 := Aside0.mk hc0
  clear hr0 hc0
  have HR1 := Aside0.mk hr1
  have HC1 := Aside0.mk hc1
  clear hr1 hc1
  have H : (if (l0.length : Int) = (l1.length : Int) then (fullerref10_Same.l0 k l0 l1 0) else (some false)) = some r := h
  clear h
  by_cases c3 : (l0.length : Int) = (l1.length : Int)
  · rw [if_pos c3] at H
    have c3b0 : ((l0.length : Int) == (l1.length : Int)) = true := beq_iff_eq.mpr c3
    have c3b1 : ((l0.length : Int) != (l1.length : Int)) = false := bne_eq_false_iff_eq.mpr c3
    have c3b2 : (l0.length == l1.length) = true := by first | simpa using c3 | (simp at c3 ⊢; omega)
    clear c3
    have H' := Aside0.mk H
    clear H
    go_enter Try.func13, Try.ntmps13
    go_wp2
    repeat (go_quiet (fail); try go_wp2)
    go_loopg [5] k (fun kq v5 w' => ∃ (x5_1 : Int), v5 = .int .i64 x5_1 ∧ Aside0 (fullerref10_Same.l0 kq l0 l1 x5_1 = some r) ∧ Aside0 (kq ≤ k) ∧ Drawn0 w w')
    case atStart => exact ⟨(0), (by first | rfl | (simp; done) | (simp [*]; done)), H', ⟨Nat.le_refl _⟩, by repeat (first | exact Drawn0.refl _ | apply Drawn0.step)⟩
    case round =>
      clear H'
      try clear c1
      try clear p2
      try clear c3
      try clear c3b0
      try clear c3b1
      try clear c3b2
      obtain ⟨x5_1, rfl, HA, HK1, ⟨m1, rfl⟩⟩ := hrel
      cases gk with
      | zero => exact absurd HA.out (by simp [fullerref10_Same.l0])
      | succ k1 =>
        have H := HA.out
        clear HA
        simp only [fullerref10_Same.l0] at H
        by_cases c4 : x5_1 < (l0.length : Int)
        · rw [if_pos c4] at H
          have c4b0 : decide (x5_1 < (l0.length : Int)) = true := decide_eq_true c4
          clear c4
          by_cases c5 : 0 ≤ x5_1
          · rw [if_pos c5] at H
            have c5b0 : decide (0 ≤ x5_1) = true := decide_eq_true c5
            clear c5
            by_cases c6 : x5_1 < (l1.length : Int)
            · rw [if_pos c6] at H
              have c6b0 : decide (x5_1 < (l1.length : Int)) = true := decide_eq_true c6
              clear c6
              replace H := Option.bind_eq_some_iff.mp H
              obtain ⟨t148, A70, H⟩ := H
              replace H : (if t148 = true then (if ((rd_T36 l0 x5_1).f0) = ((rd_T36 l1 x5_1).f0) then ((fullerref02_Same.f k1 ((rd_T36 l0 x5_1).f2) ((rd_T36 l1 x5_1).f2)).bind fun t153 => (if t153 = true then (fullerref10_Same.l0 k1 l0 l1 (wrap64 (x5_1 + 1))) else (some false))) else (some false)) else (some false)) = some r := H
              have A7 := Aside0.mk A70
              clear A70
              by_cases c8 : t148 = true
              · subst c8
                have H1 : (if ((rd_T36 l0 x5_1).f0) = ((rd_T36 l1 x5_1).f0) then ((fullerref02_Same.f k1 ((rd_T36 l0 x5_1).f2) ((rd_T36 l1 x5_1).f2)).bind fun t153 => (if t153 = true then (fullerref10_Same.l0 k1 l0 l1 (wrap64 (x5_1 + 1))) else (some false))) else (some false)) = some r := by rw [if_pos rfl] at H; exact H
                clear H
                have H := H1
                clear H1
                by_cases c9 : ((rd_T36 l0 x5_1).f0) = ((rd_T36 l1 x5_1).f0)
                · rw [if_pos c9] at H
                  have c9b0 : (((rd_T36 l0 x5_1).f0) == ((rd_T36 l1 x5_1).f0)) = true := beq_iff_eq.mpr c9
                  have c9b1 : (((rd_T36 l0 x5_1).f0) != ((rd_T36 l1 x5_1).f0)) = false := bne_eq_false_iff_eq.mpr c9
                  clear c9
                  replace H := Option.bind_eq_some_iff.mp H
                  obtain ⟨t153, A100, H⟩ := H
                  replace H : (if t153 = true then (fullerref10_Same.l0 k1 l0 l1 (wrap64 (x5_1 + 1))) else (some false)) = some r := H
                  have A10 := Aside0.mk A100
                  clear A100
                  by_cases c11 : t153 = true
                  · subst c11
                    have H1 : (fullerref10_Same.l0 k1 l0 l1 (wrap64 (x5_1 + 1))) = some r := by rw [if_pos rfl] at H; exact H
                    clear H
                    have H := H1
                    clear H1
                    have H' := Aside0.mk H
                    clear H
                    have p146 : 0 ≤ (x5_1 : Int) := od_
                    have q146 : x5_1 < (l0.length : Int) := od_
                    obtain ⟨ad146, A146_1, c146_1, A146_2, c146_2, e146, hx146_0, hx146_1, hx146_2, hl146_1, hi146_1, hl146_2, hi146_2⟩ := at_T36 HR0.out x5_1 p146 q146
                    cases e146
                    have HR146_1 := Aside0.mk hi146_1
                    have HC146_1 := Aside0.mk hl146_1
                    clear hi146_1 hl146_1
                    have HR146_2 := Aside0.mk hi146_2
                    have HC146_2 := Aside0.mk hl146_2
                    clear hi146_2 hl146_2
                    replace p146 := eq_true p146
                    replace q146 := eq_true q146
                    have p147 : 0 ≤ (x5_1 : Int) := od_
                    have q147 : x5_1 < (l1.length : Int) := od_
                    obtain ⟨ad147, A147_1, c147_1, A147_2, c147_2, e147, hx147_0, hx147_1, hx147_2, hl147_1, hi147_1, hl147_2, hi147_2⟩ := at_T36 HR1.out x5_1 p147 q147
                    cases e147
                    have HR147_1 := Aside0.mk hi147_1
                    have HC147_1 := Aside0.mk hl147_1
                    clear hi147_1 hl147_1
                    have HR147_2 := Aside0.mk hi147_2
                    have HC147_2 := Aside0.mk hl147_2
                    clear hi147_2 hl147_2
                    replace p147 := eq_true p147
                    replace q147 := eq_true q147
                    go_wp2_with (first | (go_at_call 23; (with_reducible refine (fullerref02_Same.calls k1 _ _ ((rd_T36 l0 x5_1).f1) _ _ ((rd_T36 l1 x5_1).f1) true _ ?side1 ?side2 ?side3 ?side4 A7.out).mono ?_); (case side1 => exact mvC_ (HR146_1.out)); (case side2 => exact HC146_1.out); (case side3 => exact mvC_ (HR147_1.out)); (case side4 => exact HC147_1.out); rintro e w' ⟨rfl, ⟨nd, rfl⟩⟩; (try first | exact ⟨rfl, _, World.drewN_drewN _ _ _⟩ | exact ⟨rfl, _, Eq.trans (World.drewN_drewN _ _ _) (congrArg (World.drewN _) (Nat.add_assoc _ _ _))⟩); have p149 : 0 ≤ (x5_1 : Int) := od_; have q149 : x5_1 < (l0.length : Int) := od_; obtain ⟨ad149, A149_1, c149_1, A149_2, c149_2, e149, hx149_0, hx149_1, hx149_2, hl149_1, hi149_1, hl149_2, hi149_2⟩ := at_T36 HR0.out x5_1 p149 q149; obtain rfl : ad146 = ad149 := (by injection e149); have HR149_1 := Aside0.mk hi149_1; have HC149_1 := Aside0.mk hl149_1; clear hi149_1 hl149_1; have HR149_2 := Aside0.mk hi149_2; have HC149_2 := Aside0.mk hl149_2; clear hi149_2 hl149_2; replace p149 := eq_true p149; replace q149 := eq_true q149; have ea_ := Option.some.inj (hx146_1.symm.trans hx149_1); injection ea_ with ea_ en_ ec_; subst ea_; subst ec_; clear en_; have ea_ := Option.some.inj (hx146_2.symm.trans hx149_2); injection ea_ with ea_ en_ ec_; subst ea_; subst ec_; clear en_; have p150 : 0 ≤ (x5_1 : Int) := od_; have q150 : x5_1 < (l1.length : Int) := od_; obtain ⟨ad150, A150_1, c150_1, A150_2, c150_2, e150, hx150_0, hx150_1, hx150_2, hl150_1, hi150_1, hl150_2, hi150_2⟩ := at_T36 HR1.out x5_1 p150 q150; obtain rfl : ad147 = ad150 := (by injection e150); have HR150_1 := Aside0.mk hi150_1; have HC150_1 := Aside0.mk hl150_1; clear hi150_1 hl150_1; have HR150_2 := Aside0.mk hi150_2; have HC150_2 := Aside0.mk hl150_2; clear hi150_2 hl150_2; replace p150 := eq_true p150; replace q150 := eq_true q150; have ea_ := Option.some.inj (hx147_1.symm.trans hx150_1); injection ea_ with ea_ en_ ec_; subst ea_; subst ec_; clear en_; have ea_ := Option.some.inj (hx147_2.symm.trans hx150_2); injection ea_ with ea_ en_ ec_; subst ea_; subst ec_; clear en_; have p151 : 0 ≤ (x5_1 : Int) := od_; have q151 : x5_1 < (l0.length : Int) := od_; obtain ⟨ad151, A151_1, c151_1, A151_2, c151_2, e151, hx151_0, hx151_1, hx151_2, hl151_1, hi151_1, hl151_2, hi151_2⟩ := at_T36 HR0.out x5_1 p151 q151; obtain rfl : ad146 = ad151 := (by injection e151); have HR151_1 := Aside0.mk hi151_1; have HC151_1 := Aside0.mk hl151_1; clear hi151_1 hl151_1; have HR151_2 := Aside0.mk hi151_2; have HC151_2 := Aside0.mk hl151_2; clear hi151_2 hl151_2; replace p151 := eq_true p151; replace q151 := eq_true q151; have ea_ := Option.some.inj (hx146_1.symm.trans hx151_1); injection ea_ with ea_ en_ ec_; subst ea_; subst ec_; clear en_; have ea_ := Option.some.inj (hx146_2.symm.trans hx151_2); injection ea_ with ea_ en_ ec_; subst ea_; subst ec_; clear en_; have p152 : 0 ≤ (x5_1 : Int) := od_; have q152 : x5_1 < (l1.length : Int) := od_; obtain ⟨ad152, A152_1, c152_1, A152_2, c152_2, e152, hx152_0, hx152_1, hx152_2, hl152_1, hi152_1, hl152_2, hi152_2⟩ := at_T36 HR1.out x5_1 p152 q152; obtain rfl : ad147 = ad152 := (by injection e152); have HR152_1 := Aside0.mk hi152_1; have HC152_1 := Aside0.mk hl152_1; clear hi152_1 hl152_1; have HR152_2 := Aside0.mk hi152_2; have HC152_2 := Aside0.mk hl152_2; clear hi152_2 hl152_2; replace p152 := eq_true p152; replace q152 := eq_true q152; have ea_ := Option.some.inj (hx147_1.symm.trans hx152_1); injection ea_ with ea_ en_ ec_; subst ea_; subst ec_; clear en_; have ea_ := Option.some.inj (hx147_2.symm.trans hx152_2); injection ea_ with ea_ en_ ec_; subst ea_; subst ec_; clear en_) | (go_at_call 23; (with_reducible refine (fullerref02_Same.calls k1 _ _ ((rd_T36 l0 x5_1).f2) _ _ ((rd_T36 l1 x5_1).f2) true _ ?side1 ?side2 ?side3 ?side4 A10.out).mono ?_); (case side1 => exact mvC_ (HR151_2.out)); (case side2 => exact HC151_2.out); (case side3 => exact mvC_ (HR152_2.out)); (case side4 => exact HC152_2.out); rintro e w' ⟨rfl, ⟨nd, rfl⟩⟩; (try first | exact ⟨rfl, _, World.drewN_drewN _ _ _⟩ | exact ⟨rfl, _, Eq.trans (World.drewN_drewN _ _ _) (congrArg (World.drewN _) (Nat.add_assoc _ _ _))⟩)))
                    repeat (go_quiet (first | (go_at_call 23; (with_reducible refine (fullerref02_Same.calls k1 _ _ ((rd_T36 l0 x5_1).f1) _ _ ((rd_T36 l1 x5_1).f1) true _ ?side1 ?side2 ?side3 ?side4 A7.out).mono ?_); (case side1 => exact mvC_ (HR146_1.out)); (case side2 => exact HC146_1.out); (case side3 => exact mvC_ (HR147_1.out)); (case side4 => exact HC147_1.out); rintro e w' ⟨rfl, ⟨nd, rfl⟩⟩; (try first | exact ⟨rfl, _, World.drewN_drewN _ _ _⟩ | exact ⟨rfl, _, Eq.trans (World.drewN_drewN _ _ _) (congrArg (World.drewN _) (Nat.add_assoc _ _ _))⟩); have p149 : 0 ≤ (x5_1 : Int) := od_; have q149 : x5_1 < (l0.length : Int) := od_; obtain ⟨ad149, A149_1, c149_1, A149_2, c149_2, e149, hx149_0, hx149_1, hx149_2, hl149_1, hi149_1, hl149_2, hi149_2⟩ := at_T36 HR0.out x5_1 p149 q149; obtain rfl : ad146 = ad149 := (by injection e149); have HR149_1 := Aside0.mk hi149_1; have HC149_1 := Aside0.mk hl149_1; clear hi149_1 hl149_1; have HR149_2 := Aside0.mk hi149_2; have HC149_2 := Aside0.mk hl149_2; clear hi149_2 hl149_2; replace p149 := eq_true p149; replace q149 := eq_true q149; have ea_ := Option.some.inj (hx146_1.symm.trans hx149_1); injection ea_ with ea_ en_ ec_; subst ea_; subst ec_; clear en_; have ea_ := Option.some.inj (hx146_2.symm.trans hx149_2); injection ea_ with ea_ en_ ec_; subst ea_; subst ec_; clear en_; have p150 : 0 ≤ (x5_1 : Int) := od_; have q150 : x5_1 < (l1.length : Int) := od_; obtain ⟨ad150, A150_1, c150_1, A150_2, c150_2, e150, hx150_0, hx150_1, hx150_2, hl150_1, hi150_1, hl150_2, hi150_2⟩ := at_T36 HR1.out x5_1 p150 q150; obtain rfl : ad147 = ad150 := (by injection e150); have HR150_1 := Aside0.mk hi150_1; have HC150_1 := Aside0.mk hl150_1; clear hi150_1 hl150_1; have HR150_2 := Aside0.mk hi150_2; have HC150_2 := Aside0.mk hl150_2; clear hi150_2 hl150_2; replace p150 := eq_true p150; replace q150 := eq_true q150; have ea_ := Option.some.inj (hx147_1.symm.trans hx150_1); injection ea_ with ea_ en_ ec_; subst ea_; subst ec_; clear en_; have ea_ := Option.some.inj (hx147_2.symm.trans hx150_2); injection ea_ with ea_ en_ ec_; subst ea_; subst ec_; clear en_; have p151 : 0 ≤ (x5_1 : Int) := od_; have q151 : x5_1 < (l0.length : Int) := od_; obtain ⟨ad151, A151_1, c151_1, A151_2, c151_2, e151, hx151_0, hx151_1, hx151_2, hl151_1, hi151_1, hl151_2, hi151_2⟩ := at_T36 HR0.out x5_1 p151 q151; obtain rfl : ad146 = ad151 := (by injection e151); have HR151_1 := Aside0.mk hi151_1; have HC151_1 := Aside0.mk hl151_1; clear hi151_1 hl151_1; have HR151_2 := Aside0.mk hi151_2; have HC151_2 := Aside0.mk hl151_2; clear hi151_2 hl151_2; replace p151 := eq_true p151; replace q151 := eq_true q151; have ea_ := Option.some.inj (hx146_1.symm.trans hx151_1); injection ea_ with ea_ en_ ec_; subst ea_; subst ec_; clear en_; have ea_ := Option.some.inj (hx146_2.symm.trans hx151_2); injection ea_ with ea_ en_ ec_; subst ea_; subst ec_; clear en_; have p152 : 0 ≤ (x5_1 : Int) := od_; have q152 : x5_1 < (l1.length : Int) := od_; obtain ⟨ad152, A152_1, c152_1, A152_2, c152_2, e152, hx152_0, hx152_1, hx152_2, hl152_1, hi152_1, hl152_2, hi152_2⟩ := at_T36 HR1.out x5_1 p152 q152; obtain rfl : ad147 = ad152 := (by injection e152); have HR152_1 := Aside0.mk hi152_1; have HC152_1 := Aside0.mk hl152_1; clear hi152_1 hl152_1; have HR152_2 := Aside0.mk hi152_2; have HC152_2 := Aside0.mk hl152_2; clear hi152_2 hl152_2; replace p152 := eq_true p152; replace q152 := eq_true q152; have ea_ := Option.some.inj (hx147_1.symm.trans hx152_1); injection ea_ with ea_ en_ ec_; subst ea_; subst ec_; clear en_; have ea_ := Option.some.inj (hx147_2.symm.trans hx152_2); injection ea_ with ea_ en_ ec_; subst ea_; subst ec_; clear en_) | (go_at_call 23; (with_reducible refine (fullerref02_Same.calls k1 _ _ ((rd_T36 l0 x5_1).f2) _ _ ((rd_T36 l1 x5_1).f2) true _ ?side1 ?side2 ?side3 ?side4 A10.out).mono ?_); (case side1 => exact mvC_ (HR151_2.out)); (case side2 => exact HC151_2.out); (case side3 => exact mvC_ (HR152_2.out)); (case side4 => exact HC152_2.out); rintro e w' ⟨rfl, ⟨nd, rfl⟩⟩; (try first | exact ⟨rfl, _, World.drewN_drewN _ _ _⟩ | exact ⟨rfl, _, Eq.trans (World.drewN_drewN _ _ _) (congrArg (World.drewN _) (Nat.add_assoc _ _ _))⟩))); try go_wp2_with (first | (go_at_call 23; (with_reducible refine (fullerref02_Same.calls k1 _ _ ((rd_T36 l0 x5_1).f1) _ _ ((rd_T36 l1 x5_1).f1) true _ ?side1 ?side2 ?side3 ?side4 A7.out).mono ?_); (case side1 => exact mvC_ (HR146_1.out)); (case side2 => exact HC146_1.out); (case side3 => exact mvC_ (HR147_1.out)); (case side4 => exact HC147_1.out); rintro e w' ⟨rfl, ⟨nd, rfl⟩⟩; (try first | exact ⟨rfl, _, World.drewN_drewN _ _ _⟩ | exact ⟨rfl, _, Eq.trans (World.drewN_drewN _ _ _) (congrArg (World.drewN _) (Nat.add_assoc _ _ _))⟩); have p149 : 0 ≤ (x5_1 : Int) := od_; have q149 : x5_1 < (l0.length : Int) := od_; obtain ⟨ad149, A149_1, c149_1, A149_2, c149_2, e149, hx149_0, hx149_1, hx149_2, hl149_1, hi149_1, hl149_2, hi149_2⟩ := at_T36 HR0.out x5_1 p149 q149; obtain rfl : ad146 = ad149 := (by injection e149); have HR149_1 := Aside0.mk hi149_1; have HC149_1 := Aside0.mk hl149_1; clear hi149_1 hl149_1; have HR149_2 := Aside0.mk hi149_2; have HC149_2 := Aside0.mk hl149_2; clear hi149_2 hl149_2; replace p149 := eq_true p149; replace q149 := eq_true q149; have ea_ := Option.some.inj (hx146_1.symm.trans hx149_1); injection ea_ with ea_ en_ ec_; subst ea_; subst ec_; clear en_; have ea_ := Option.some.inj (hx146_2.symm.trans hx149_2); injection ea_ with ea_ en_ ec_; subst ea_; subst ec_; clear en_; have p150 : 0 ≤ (x5_1 : Int) := od_; have q150 : x5_1 < (l1.length : Int) := od_; obtain ⟨ad150, A150_1, c150_1, A150_2, c150_2, e150, hx150_0, hx150_1, hx150_2, hl150_1, hi150_1, hl150_2, hi150_2⟩ := at_T36 HR1.out x5_1 p150 q150; obtain rfl : ad147 = ad150 := (by injection e150); have HR150_1 := Aside0.mk hi150_1; have HC150_1 := Aside0.mk hl150_1; clear hi150_1 hl150_1; have HR150_2 := Aside0.mk hi150_2; have HC150_2 := Aside0.mk hl150_2; clear hi150_2 hl150_2; replace p150 := eq_true p150; replace q150 := eq_true q150; have ea_ := Option.some.inj (hx147_1.symm.trans hx150_1); injection ea_ with ea_ en_ ec_; subst ea_; subst ec_; clear en_; have ea_ := Option.some.inj (hx147_2.symm.trans hx150_2); injection ea_ with ea_ en_ ec_; subst ea_; subst ec_; clear en_; have p151 : 0 ≤ (x5_1 : Int) := od_; have q151 : x5_1 < (l0.length : Int) := od_; obtain ⟨ad151, A151_1, c151_1, A151_2, c151_2, e151, hx151_0, hx151_1, hx151_2, hl151_1, hi151_1, hl151_2, hi151_2⟩ := at_T36 HR0.out x5_1 p151 q151; obtain rfl : ad146 = ad151 := (by injection e151); have HR151_1 := Aside0.mk hi151_1; have HC151_1 := Aside0.mk hl151_1; clear hi151_1 hl151_1; have HR151_2 := Aside0.mk hi151_2; have HC151_2 := Aside0.mk hl151_2; clear hi151_2 hl151_2; replace p151 := eq_true p151; replace q151 := eq_true q151; have ea_ := Option.some.inj (hx146_1.symm.trans hx151_1); injection ea_ with ea_ en_ ec_; subst ea_; subst ec_; clear en_; have ea_ := Option.some.inj (hx146_2.symm.trans hx151_2); injection ea_ with ea_ en_ ec_; subst ea_; subst ec_; clear en_; have p152 : 0 ≤ (x5_1 : Int) := od_; have q152 : x5_1 < (l1.length : Int) := od_; obtain ⟨ad152, A152_1, c152_1, A152_2, c152_2, e152, hx152_0, hx152_1, hx152_2, hl152_1, hi152_1, hl152_2, hi152_2⟩ := at_T36 HR1.out x5_1 p152 q152; obtain rfl : ad147 = ad152 := (by injection e152); have HR152_1 := Aside0.mk hi152_1; have HC152_1 := Aside0.mk hl152_1; clear hi152_1 hl152_1; have HR152_2 := Aside0.mk hi152_2; have HC152_2 := Aside0.mk hl152_2; clear hi152_2 hl152_2; replace p152 := eq_true p152; replace q152 := eq_true q152; have ea_ := Option.some.inj (hx147_1.symm.trans hx152_1); injection ea_ with ea_ en_ ec_; subst ea_; subst ec_; clear en_; have ea_ := Option.some.inj (hx147_2.symm.trans hx152_2); injection ea_ with ea_ en_ ec_; subst ea_; subst ec_; clear en_) | (go_at_call 23; (with_reducible refine (fullerref02_Same.calls k1 _ _ ((rd_T36 l0 x5_1).f2) _ _ ((rd_T36 l1 x5_1).f2) true _ ?side1 ?side2 ?side3 ?side4 A10.out).mono ?_); (case side1 => exact mvC_ (HR151_2.out)); (case side2 => exact HC151_2.out); (case side3 => exact mvC_ (HR152_2.out)); (case side4 => exact HC152_2.out); rintro e w' ⟨rfl, ⟨nd, rfl⟩⟩; (try first | exact ⟨rfl, _, World.drewN_drewN _ _ _⟩ | exact ⟨rfl, _, Eq.trans (World.drewN_drewN _ _ _) (congrArg (World.drewN _) (Nat.add_assoc _ _ _))⟩))))
                    go_roundg k1
                    case measure => have := HK1.out; omega
                    case rel => exact ⟨(wrap64 (x5_1 + 1)), (by first | rfl | (simp; done) | (simp [*]; done)), H', ⟨by have := HK1.out; omega⟩, by repeat (first | exact Drawn0.refl _ | apply Drawn0.step)⟩
                  · replace c11 := Bool.eq_false_iff.mpr c11
                    subst c11
                    have H1 : (some false) = some r := by rw [if_neg (show ¬ (false = true) by decide)] at H; exact H
                    clear H
                    have H := H1
                    clear H1
                    obtain rfl := Option.some.inj H
                    have p146 : 0 ≤ (x5_1 : Int) := od_
                    have q146 : x5_1 < (l0.length : Int) := od_
                    obtain ⟨ad146, A146_1, c146_1, A146_2, c146_2, e146, hx146_0, hx146_1, hx146_2, hl146_1, hi146_1, hl146_2, hi146_2⟩ := at_T36 HR0.out x5_1 p146 q146
                    cases e146
                    have HR146_1 := Aside0.mk hi146_1
                    have HC146_1 := Aside0.mk hl146_1
                    clear hi146_1 hl146_1
                    have HR146_2 := Aside0.mk hi146_2
                    have HC146_2 := Aside0.mk hl146_2
                    clear hi146_2 hl146_2
                    replace p146 := eq_true p146
                    replace q146 := eq_true q146
                    have p147 : 0 ≤ (x5_1 : Int) := od_
                    have q147 : x5_1 < (l1.length : Int) := od_
                    obtain ⟨ad147, A147_1, c147_1, A147_2, c147_2, e147, hx147_0, hx147_1, hx147_2, hl147_1, hi147_1, hl147_2, hi147_2⟩ := at_T36 HR1.out x5_1 p147 q147
                    cases e147
                    have HR147_1 := Aside0.mk hi147_1
                    have HC147_1 := Aside0.mk hl147_1
                    clear hi147_1 hl147_1
                    have HR147_2 := Aside0.mk hi147_2
                    have HC147_2 := Aside0.mk hl147_2
                    clear hi147_2 hl147_2
                    replace p147 := eq_true p147
                    replace q147 := eq_true q147
                    go_wp2_with (first | (go_at_call 23; (with_reducible refine (fullerref02_Same.calls k1 _ _ ((rd_T36 l0 x5_1).f1) _ _ ((rd_T36 l1 x5_1).f1) true _ ?side1 ?side2 ?side3 ?side4 A7.out).mono ?_); (case side1 => exact mvC_ (HR146_1.out)); (case side2 => exact HC146_1.out); (case side3 => exact mvC_ (HR147_1.out)); (case side4 => exact HC147_1.out); rintro e w' ⟨rfl, ⟨nd, rfl⟩⟩; (try first | exact ⟨rfl, _, World.drewN_drewN _ _ _⟩ | exact ⟨rfl, _, Eq.trans (World.drewN_drewN _ _ _) (congrArg (World.drewN _) (Nat.add_assoc _ _ _))⟩); have p149 : 0 ≤ (x5_1 : Int) := od_; have q149 : x5_1 < (l0.length : Int) := od_; obtain ⟨ad149, A149_1, c149_1, A149_2, c149_2, e149, hx149_0, hx149_1, hx149_2, hl149_1, hi149_1, hl149_2, hi149_2⟩ := at_T36 HR0.out x5_1 p149 q149; obtain rfl : ad146 = ad149 := (by injection e149); have HR149_1 := Aside0.mk hi149_1; have HC149_1 := Aside0.mk hl149_1; clear hi149_1 hl149_1; have HR149_2 := Aside0.mk hi149_2; have HC149_2 := Aside0.mk hl149_2; clear hi149_2 hl149_2; replace p149 := eq_true p149; replace q149 := eq_true q149; have ea_ := Option.some.inj (hx146_1.symm.trans hx149_1); injection ea_ with ea_ en_ ec_; subst ea_; subst ec_; clear en_; have ea_ := Option.some.inj (hx146_2.symm.trans hx149_2); injection ea_ with ea_ en_ ec_; subst ea_; subst ec_; clear en_; have p150 : 0 ≤ (x5_1 : Int) := od_; have q150 : x5_1 < (l1.length : Int) := od_; obtain ⟨ad150, A150_1, c150_1, A150_2, c150_2, e150, hx150_0, hx150_1, hx150_2, hl150_1, hi150_1, hl150_2, hi150_2⟩ := at_T36 HR1.out x5_1 p150 q150; obtain rfl : ad147 = ad150 := (by injection e150); have HR150_1 := Aside0.mk hi150_1; have HC150_1 := Aside0.mk hl150_1; clear hi150_1 hl150_1; have HR150_2 := Aside0.mk hi150_2; have HC150_2 := Aside0.mk hl150_2; clear hi150_2 hl150_2; replace p150 := eq_true p150; replace q150 := eq_true q150; have ea_ := Option.some.inj (hx147_1.symm.trans hx150_1); injection ea_ with ea_ en_ ec_; subst ea_; subst ec_; clear en_; have ea_ := Option.some.inj (hx147_2.symm.trans hx150_2); injection ea_ with ea_ en_ ec_; subst ea_; subst ec_; clear en_; have p151 : 0 ≤ (x5_1 : Int) := od_; have q151 : x5_1 < (l0.length : Int) := od_; obtain ⟨ad151, A151_1, c151_1, A151_2, c151_2, e151, hx151_0, hx151_1, hx151_2, hl151_1, hi151_1, hl151_2, hi151_2⟩ := at_T36 HR0.out x5_1 p151 q151; obtain rfl : ad146 = ad151 := (by injection e151); have HR151_1 := Aside0.mk hi151_1; have HC151_1 := Aside0.mk hl151_1; clear hi151_1 hl151_1; have HR151_2 := Aside0.mk hi151_2; have HC151_2 := Aside0.mk hl151_2; clear hi151_2 hl151_2; replace p151 := eq_true p151; replace q151 := eq_true q151; have ea_ := Option.some.inj (hx146_1.symm.trans hx151_1); injection ea_ with ea_ en_ ec_; subst ea_; subst ec_; clear en_; have ea_ := Option.some.inj (hx146_2.symm.trans hx151_2); injection ea_ with ea_ en_ ec_; subst ea_; subst ec_; clear en_; have p152 : 0 ≤ (x5_1 : Int) := od_; have q152 : x5_1 < (l1.length : Int) := od_; obtain ⟨ad152, A152_1, c152_1, A152_2, c152_2, e152, hx152_0, hx152_1, hx152_2, hl152_1, hi152_1, hl152_2, hi152_2⟩ := at_T36 HR1.out x5_1 p152 q152; obtain rfl : ad147 = ad152 := (by injection e152); have HR152_1 := Aside0.mk hi152_1; have HC152_1 := Aside0.mk hl152_1; clear hi152_1 hl152_1; have HR152_2 := Aside0.mk hi152_2; have HC152_2 := Aside0.mk hl152_2; clear hi152_2 hl152_2; replace p152 := eq_true p152; replace q152 := eq_true q152; have ea_ := Option.some.inj (hx147_1.symm.trans hx152_1); injection ea_ with ea_ en_ ec_; subst ea_; subst ec_; clear en_; have ea_ := Option.some.inj (hx147_2.symm.trans hx152_2); injection ea_ with ea_ en_ ec_; subst ea_; subst ec_; clear en_) | (go_at_call 23; (with_reducible refine (fullerref02_Same.calls k1 _ _ ((rd_T36 l0 x5_1).f2) _ _ ((rd_T36 l1 x5_1).f2) false _ ?side1 ?side2 ?side3 ?side4 A10.out).mono ?_); (case side1 => exact mvC_ (HR151_2.out)); (case side2 => exact HC151_2.out); (case side3 => exact mvC_ (HR152_2.out)); (case side4 => exact HC152_2.out); rintro e w' ⟨rfl, ⟨nd, rfl⟩⟩; (try first | exact ⟨rfl, _, World.drewN_drewN _ _ _⟩ | exact ⟨rfl, _, Eq.trans (World.drewN_drewN _ _ _) (congrArg (World.drewN _) (Nat.add_assoc _ _ _))⟩)))
                    repeat (go_quiet (first | (go_at_call 23; (with_reducible refine (fullerref02_Same.calls k1 _ _ ((rd_T36 l0 x5_1).f1) _ _ ((rd_T36 l1 x5_1).f1) true _ ?side1 ?side2 ?side3 ?side4 A7.out).mono ?_); (case side1 => exact mvC_ (HR146_1.out)); (case side2 => exact HC146_1.out); (case side3 => exact mvC_ (HR147_1.out)); (case side4 => exact HC147_1.out); rintro e w' ⟨rfl, ⟨nd, rfl⟩⟩; (try first | exact ⟨rfl, _, World.drewN_drewN _ _ _⟩ | exact ⟨rfl, _, Eq.trans (World.drewN_drewN _ _ _) (congrArg (World.drewN _) (Nat.add_assoc _ _ _))⟩); have p149 : 0 ≤ (x5_1 : Int) := od_; have q149 : x5_1 < (l0.length : Int) := od_; obtain ⟨ad149, A149_1, c149_1, A149_2, c149_2, e149, hx149_0, hx149_1, hx149_2, hl149_1, hi149_1, hl149_2, hi149_2⟩ := at_T36 HR0.out x5_1 p149 q149; obtain rfl : ad146 = ad149 := (by injection e149); have HR149_1 := Aside0.mk hi149_1; have HC149_1 := Aside0.mk hl149_1; clear hi149_1 hl149_1; have HR149_2 := Aside0.mk hi149_2; have HC149_2 := Aside0.mk hl149_2; clear hi149_2 hl149_2; replace p149 := eq_true p149; replace q149 := eq_true q149; have ea_ := Option.some.inj (hx146_1.symm.trans hx149_1); injection ea_ with ea_ en_ ec_; subst ea_; subst ec_; clear en_; have ea_ := Option.some.inj (hx146_2.symm.trans hx149_2); injection ea_ with ea_ en_ ec_; subst ea_; subst ec_; clear en_; have p150 : 0 ≤ (x5_1 : Int) := od_; have q150 : x5_1 < (l1.length : Int) := od_; obtain ⟨ad150, A150_1, c150_1, A150_2, c150_2, e150, hx150_0, hx150_1, hx150_2, hl150_1, hi150_1, hl150_2, hi150_2⟩ := at_T36 HR1.out x5_1 p150 q150; obtain rfl : ad147 = ad150 := (by injection e150); have HR150_1 := Aside0.mk hi150_1; have HC150_1 := Aside0.mk hl150_1; clear hi150_1 hl150_1; have HR150_2 := Aside0.mk hi150_2; have HC150_2 := Aside0.mk hl150_2; clear hi150_2 hl150_2; replace p150 := eq_true p150; replace q150 := eq_true q150; have ea_ := Option.some.inj (hx147_1.symm.trans hx150_1); injection ea_ with ea_ en_ ec_; subst ea_; subst ec_; clear en_; have ea_ := Option.some.inj (hx147_2.symm.trans hx150_2); injection ea_ with ea_ en_ ec_; subst ea_; subst ec_; clear en_; have p151 : 0 ≤ (x5_1 : Int) := od_; have q151 : x5_1 < (l0.length : Int) := od_; obtain ⟨ad151, A151_1, c151_1, A151_2, c151_2, e151, hx151_0, hx151_1, hx151_2, hl151_1, hi151_1, hl151_2, hi151_2⟩ := at_T36 HR0.out x5_1 p151 q151; obtain rfl : ad146 = ad151 := (by injection e151); have HR151_1 := Aside0.mk hi151_1; have HC151_1 := Aside0.mk hl151_1; clear hi151_1 hl151_1; have HR151_2 := Aside0.mk hi151_2; have HC151_2 := Aside0.mk hl151_2; clear hi151_2 hl151_2; replace p151 := eq_true p151; replace q151 := eq_true q151; have ea_ := Option.some.inj (hx146_1.symm.trans hx151_1); injection ea_ with ea_ en_ ec_; subst ea_; subst ec_; clear en_; have ea_ := Option.some.inj (hx146_2.symm.trans hx151_2); injection ea_ with ea_ en_ ec_; subst ea_; subst ec_; clear en_; have p152 : 0 ≤ (x5_1 : Int) := od_; have q152 : x5_1 < (l1.length : Int) := od_; obtain ⟨ad152, A152_1, c152_1, A152_2, c152_2, e152, hx152_0, hx152_1, hx152_2, hl152_1, hi152_1, hl152_2, hi152_2⟩ := at_T36 HR1.out x5_1 p152 q152; obtain rfl : ad147 = ad152 := (by injection e152); have HR152_1 := Aside0.mk hi152_1; have HC152_1 := Aside0.mk hl152_1; clear hi152_1 hl152_1; have HR152_2 := Aside0.mk hi152_2; have HC152_2 := Aside0.mk hl152_2; clear hi152_2 hl152_2; replace p152 := eq_true p152; replace q152 := eq_true q152; have ea_ := Option.some.inj (hx147_1.symm.trans hx152_1); injection ea_ with ea_ en_ ec_; subst ea_; subst ec_; clear en_; have ea_ := Option.some.inj (hx147_2.symm.trans hx152_2); injection ea_ with ea_ en_ ec_; subst ea_; subst ec_; clear en_) | (go_at_call 23; (with_reducible refine (fullerref02_Same.calls k1 _ _ ((rd_T36 l0 x5_1).f2) _ _ ((rd_T36 l1 x5_1).f2) false _ ?side1 ?side2 ?side3 ?side4 A10.out).mono ?_); (case side1 => exact mvC_ (HR151_2.out)); (case side2 => exact HC151_2.out); (case side3 => exact mvC_ (HR152_2.out)); (case side4 => exact HC152_2.out); rintro e w' ⟨rfl, ⟨nd, rfl⟩⟩; (try first | exact ⟨rfl, _, World.drewN_drewN _ _ _⟩ | exact ⟨rfl, _, Eq.trans (World.drewN_drewN _ _ _) (congrArg (World.drewN _) (Nat.add_assoc _ _ _))⟩))); try go_wp2_with (first | (go_at_call 23; (with_reducible refine (fullerref02_Same.calls k1 _ _ ((rd_T36 l0 x5_1).f1) _ _ ((rd_T36 l1 x5_1).f1) true _ ?side1 ?side2 ?side3 ?side4 A7.out).mono ?_); (case side1 => exact mvC_ (HR146_1.out)); (case side2 => exact HC146_1.out); (case side3 => exact mvC_ (HR147_1.out)); (case side4 => exact HC147_1.out); rintro e w' ⟨rfl, ⟨nd, rfl⟩⟩; (try first | exact ⟨rfl, _, World.drewN_drewN _ _ _⟩ | exact ⟨rfl, _, Eq.trans (World.drewN_drewN _ _ _) (congrArg (World.drewN _) (Nat.add_assoc _ _ _))⟩); have p149 : 0 ≤ (x5_1 : Int) := od_; have q149 : x5_1 < (l0.length : Int) := od_; obtain ⟨ad149, A149_1, c149_1, A149_2, c149_2, e149, hx149_0, hx149_1, hx149_2, hl149_1, hi149_1, hl149_2, hi149_2⟩ := at_T36 HR0.out x5_1 p149 q149; obtain rfl : ad146 = ad149 := (by injection e149); have HR149_1 := Aside0.mk hi149_1; have HC149_1 := Aside0.mk hl149_1; clear hi149_1 hl149_1; have HR149_2 := Aside0.mk hi149_2; have HC149_2 := Aside0.mk hl149_2; clear hi149_2 hl149_2; replace p149 := eq_true p149; replace q149 := eq_true q149; have ea_ := Option.some.inj (hx146_1.symm.trans hx149_1); injection ea_ with ea_ en_ ec_; subst ea_; subst ec_; clear en_; have ea_ := Option.some.inj (hx146_2.symm.trans hx149_2); injection ea_ with ea_ en_ ec_; subst ea_; subst ec_; clear en_; have p150 : 0 ≤ (x5_1 : Int) := od_; have q150 : x5_1 < (l1.length : Int) := od_; obtain ⟨ad150, A150_1, c150_1, A150_2, c150_2, e150, hx150_0, hx150_1, hx150_2, hl150_1, hi150_1, hl150_2, hi150_2⟩ := at_T36 HR1.out x5_1 p150 q150; obtain rfl : ad147 = ad150 := (by injection e150); have HR150_1 := Aside0.mk hi150_1; have HC150_1 := Aside0.mk hl150_1; clear hi150_1 hl150_1; have HR150_2 := Aside0.mk hi150_2; have HC150_2 := Aside0.mk hl150_2; clear hi150_2 hl150_2; replace p150 := eq_true p150; replace q150 := eq_true q150; have ea_ := Option.some.inj (hx147_1.symm.trans hx150_1); injection ea_ with ea_ en_ ec_; subst ea_; subst ec_; clear en_; have ea_ := Option.some.inj (hx147_2.symm.trans hx150_2); injection ea_ with ea_ en_ ec_; subst ea_; subst ec_; clear en_; have p151 : 0 ≤ (x5_1 : Int) := od_; have q151 : x5_1 < (l0.length : Int) := od_; obtain ⟨ad151, A151_1, c151_1, A151_2, c151_2, e151, hx151_0, hx151_1, hx151_2, hl151_1, hi151_1, hl151_2, hi151_2⟩ := at_T36 HR0.out x5_1 p151 q151; obtain rfl : ad146 = ad151 := (by injection e151); have HR151_1 := Aside0.mk hi151_1; have HC151_1 := Aside0.mk hl151_1; clear hi151_1 hl151_1; have HR151_2 := Aside0.mk hi151_2; have HC151_2 := Aside0.mk hl151_2; clear hi151_2 hl151_2; replace p151 := eq_true p151; replace q151 := eq_true q151; have ea_ := Option.some.inj (hx146_1.symm.trans hx151_1); injection ea_ with ea_ en_ ec_; subst ea_; subst ec_; clear en_; have ea_ := Option.some.inj (hx146_2.symm.trans hx151_2); injection ea_ with ea_ en_ ec_; subst ea_; subst ec_; clear en_; have p152 : 0 ≤ (x5_1 : Int) := od_; have q152 : x5_1 < (l1.length : Int) := od_; obtain ⟨ad152, A152_1, c152_1, A152_2, c152_2, e152, hx152_0, hx152_1, hx152_2, hl152_1, hi152_1, hl152_2, hi152_2⟩ := at_T36 HR1.out x5_1 p152 q152; obtain rfl : ad147 = ad152 := (by injection e152); have HR152_1 := Aside0.mk hi152_1; have HC152_1 := Aside0.mk hl152_1; clear hi152_1 hl152_1; have HR152_2 := Aside0.mk hi152_2; have HC152_2 := Aside0.mk hl152_2; clear hi152_2 hl152_2; replace p152 := eq_true p152; replace q152 := eq_true q152; have ea_ := Option.some.inj (hx147_1.symm.trans hx152_1); injection ea_ with ea_ en_ ec_; subst ea_; subst ec_; clear en_; have ea_ := Option.some.inj (hx147_2.symm.trans hx152_2); injection ea_ with ea_ en_ ec_; subst ea_; subst ec_; clear en_) | (go_at_call 23; (with_reducible refine (fullerref02_Same.calls k1 _ _ ((rd_T36 l0 x5_1).f2) _ _ ((rd_T36 l1 x5_1).f2) false _ ?side1 ?side2 ?side3 ?side4 A10.out).mono ?_); (case side1 => exact mvC_ (HR151_2.out)); (case side2 => exact HC151_2.out); (case side3 => exact mvC_ (HR152_2.out)); (case side4 => exact HC152_2.out); rintro e w' ⟨rfl, ⟨nd, rfl⟩⟩; (try first | exact ⟨rfl, _, World.drewN_drewN _ _ _⟩ | exact ⟨rfl, _, Eq.trans (World.drewN_drewN _ _ _) (congrArg (World.drewN _) (Nat.add_assoc _ _ _))⟩))))
                    go_ret
                    exact ⟨by first | rfl | (simp; done) | (simp [*]; done), by repeat (first | exact Drawn0.refl _ | apply Drawn0.step)⟩
                · rw [if_neg c9] at H
                  have c9b0 : (((rd_T36 l0 x5_1).f0) == ((rd_T36 l1 x5_1).f0)) = false := beq_eq_false_iff_ne.mpr c9
                  have c9b1 : (((rd_T36 l0 x5_1).f0) != ((rd_T36 l1 x5_1).f0)) = true := bne_iff_ne.mpr c9
                  obtain rfl := Option.some.inj H
                  have p146 : 0 ≤ (x5_1 : Int) := od_
                  have q146 : x5_1 < (l0.length : Int) := od_
                  obtain ⟨ad146, A146_1, c146_1, A146_2, c146_2, e146, hx146_0, hx146_1, hx146_2, hl146_1, hi146_1, hl146_2, hi146_2⟩ := at_T36 HR0.out x5_1 p146 q146
                  cases e146
                  have HR146_1 := Aside0.mk hi146_1
                  have HC146_1 := Aside0.mk hl146_1
                  clear hi146_1 hl146_1
                  have HR146_2 := Aside0.mk hi146_2
                  have HC146_2 := Aside0.mk hl146_2
                  clear hi146_2 hl146_2
                  replace p146 := eq_true p146
                  replace q146 := eq_true q146
                  have p147 : 0 ≤ (x5_1 : Int) := od_
                  have q147 : x5_1 < (l1.length : Int) := od_
                  obtain ⟨ad147, A147_1, c147_1, A147_2, c147_2, e147, hx147_0, hx147_1, hx147_2, hl147_1, hi147_1, hl147_2, hi147_2⟩ := at_T36 HR1.out x5_1 p147 q147
                  cases e147
                  have HR147_1 := Aside0.mk hi147_1
                  have HC147_1 := Aside0.mk hl147_1
                  clear hi147_1 hl147_1
                  have HR147_2 := Aside0.mk hi147_2
                  have HC147_2 := Aside0.mk hl147_2
                  clear hi147_2 hl147_2
                  replace p147 := eq_true p147
                  replace q147 := eq_true q147
                  go_wp2_with (first | (go_at_call 23; (with_reducible refine (fullerref02_Same.calls k1 _ _ ((rd_T36 l0 x5_1).f1) _ _ ((rd_T36 l1 x5_1).f1) true _ ?side1 ?side2 ?side3 ?side4 A7.out).mono ?_); (case side1 => exact mvC_ (HR146_1.out)); (case side2 => exact HC146_1.out); (case side3 => exact mvC_ (HR147_1.out)); (case side4 => exact HC147_1.out); rintro e w' ⟨rfl, ⟨nd, rfl⟩⟩; (try first | exact ⟨rfl, _, World.drewN_drewN _ _ _⟩ | exact ⟨rfl, _, Eq.trans (World.drewN_drewN _ _ _) (congrArg (World.drewN _) (Nat.add_assoc _ _ _))⟩); have p149 : 0 ≤ (x5_1 : Int) := od_; have q149 : x5_1 < (l0.length : Int) := od_; obtain ⟨ad149, A149_1, c149_1, A149_2, c149_2, e149, hx149_0, hx149_1, hx149_2, hl149_1, hi149_1, hl149_2, hi149_2⟩ := at_T36 HR0.out x5_1 p149 q149; obtain rfl : ad146 = ad149 := (by injection e149); have HR149_1 := Aside0.mk hi149_1; have HC149_1 := Aside0.mk hl149_1; clear hi149_1 hl149_1; have HR149_2 := Aside0.mk hi149_2; have HC149_2 := Aside0.mk hl149_2; clear hi149_2 hl149_2; replace p149 := eq_true p149; replace q149 := eq_true q149; have ea_ := Option.some.inj (hx146_1.symm.trans hx149_1); injection ea_ with ea_ en_ ec_; subst ea_; subst ec_; clear en_; have ea_ := Option.some.inj (hx146_2.symm.trans hx149_2); injection ea_ with ea_ en_ ec_; subst ea_; subst ec_; clear en_; have p150 : 0 ≤ (x5_1 : Int) := od_; have q150 : x5_1 < (l1.length : Int) := od_; obtain ⟨ad150, A150_1, c150_1, A150_2, c150_2, e150, hx150_0, hx150_1, hx150_2, hl150_1, hi150_1, hl150_2, hi150_2⟩ := at_T36 HR1.out x5_1 p150 q150; obtain rfl : ad147 = ad150 := (by injection e150); have HR150_1 := Aside0.mk hi150_1; have HC150_1 := Aside0.mk hl150_1; clear hi150_1 hl150_1; have HR150_2 := Aside0.mk hi150_2; have HC150_2 := Aside0.mk hl150_2; clear hi150_2 hl150_2; replace p150 := eq_true p150; replace q150 := eq_true q150; have ea_ := Option.some.inj (hx147_1.symm.trans hx150_1); injection ea_ with ea_ en_ ec_; subst ea_; subst ec_; clear en_; have ea_ := Option.some.inj (hx147_2.symm.trans hx150_2); injection ea_ with ea_ en_ ec_; subst ea_; subst ec_; clear en_))
                  repeat (go_quiet (first | (go_at_call 23; (with_reducible refine (fullerref02_Same.calls k1 _ _ ((rd_T36 l0 x5_1).f1) _ _ ((rd_T36 l1 x5_1).f1) true _ ?side1 ?side2 ?side3 ?side4 A7.out).mono ?_); (case side1 => exact mvC_ (HR146_1.out)); (case side2 => exact HC146_1.out); (case side3 => exact mvC_ (HR147_1.out)); (case side4 => exact HC147_1.out); rintro e w' ⟨rfl, ⟨nd, rfl⟩⟩; (try first | exact ⟨rfl, _, World.drewN_drewN _ _ _⟩ | exact ⟨rfl, _, Eq.trans (World.drewN_drewN _ _ _) (congrArg (World.drewN _) (Nat.add_assoc _ _ _))⟩); have p149 : 0 ≤ (x5_1 : Int) := od_; have q149 : x5_1 < (l0.length : Int) := od_; obtain ⟨ad149, A149_1, c149_1, A149_2, c149_2, e149, hx149_0, hx149_1, hx149_2, hl149_1, hi149_1, hl149_2, hi149_2⟩ := at_T36 HR0.out x5_1 p149 q149; obtain rfl : ad146 = ad149 := (by injection e149); have HR149_1 := Aside0.mk hi149_1; have HC149_1 := Aside0.mk hl149_1; clear hi149_1 hl149_1; have HR149_2 := Aside0.mk hi149_2; have HC149_2 := Aside0.mk hl149_2; clear hi149_2 hl149_2; replace p149 := eq_true p149; replace q149 := eq_true q149; have ea_ := Option.some.inj (hx146_1.symm.trans hx149_1); injection ea_ with ea_ en_ ec_; subst ea_; subst ec_; clear en_; have ea_ := Option.some.inj (hx146_2.symm.trans hx149_2); injection ea_ with ea_ en_ ec_; subst ea_; subst ec_; clear en_; have p150 : 0 ≤ (x5_1 : Int) := od_; have q150 : x5_1 < (l1.length : Int) := od_; obtain ⟨ad150, A150_1, c150_1, A150_2, c150_2, e150, hx150_0, hx150_1, hx150_2, hl150_1, hi150_1, hl150_2, hi150_2⟩ := at_T36 HR1.out x5_1 p150 q150; obtain rfl : ad147 = ad150 := (by injection e150); have HR150_1 := Aside0.mk hi150_1; have HC150_1 := Aside0.mk hl150_1; clear hi150_1 hl150_1; have HR150_2 := Aside0.mk hi150_2; have HC150_2 := Aside0.mk hl150_2; clear hi150_2 hl150_2; replace p150 := eq_true p150; replace q150 := eq_true q150; have ea_ := Option.some.inj (hx147_1.symm.trans hx150_1); injection ea_ with ea_ en_ ec_; subst ea_; subst ec_; clear en_; have ea_ := Option.some.inj (hx147_2.symm.trans hx150_2); injection ea_ with ea_ en_ ec_; subst ea_; subst ec_; clear en_)); try go_wp2_with (first | (go_at_call 23; (with_reducible refine (fullerref02_Same.calls k1 _ _ ((rd_T36 l0 x5_1).f1) _ _ ((rd_T36 l1 x5_1).f1) true _ ?side1 ?side2 ?side3 ?side4 A7.out).mono ?_); (case side1 => exact mvC_ (HR146_1.out)); (case side2 => exact HC146_1.out); (case side3 => exact mvC_ (HR147_1.out)); (case side4 => exact HC147_1.out); rintro e w' ⟨rfl, ⟨nd, rfl⟩⟩; (try first | exact ⟨rfl, _, World.drewN_drewN _ _ _⟩ | exact ⟨rfl, _, Eq.trans (World.drewN_drewN _ _ _) (congrArg (World.drewN _) (Nat.add_assoc _ _ _))⟩); have p149 : 0 ≤ (x5_1 : Int) := od_; have q149 : x5_1 < (l0.length : Int) := od_; obtain ⟨ad149, A149_1, c149_1, A149_2, c149_2, e149, hx149_0, hx149_1, hx149_2, hl149_1, hi149_1, hl149_2, hi149_2⟩ := at_T36 HR0.out x5_1 p149 q149; obtain rfl : ad146 = ad149 := (by injection e149); have HR149_1 := Aside0.mk hi149_1; have HC149_1 := Aside0.mk hl149_1; clear hi149_1 hl149_1; have HR149_2 := Aside0.mk hi149_2; have HC149_2 := Aside0.mk hl149_2; clear hi149_2 hl149_2; replace p149 := eq_true p149; replace q149 := eq_true q149; have ea_ := Option.some.inj (hx146_1.symm.trans hx149_1); injection ea_ with ea_ en_ ec_; subst ea_; subst ec_; clear en_; have ea_ := Option.some.inj (hx146_2.symm.trans hx149_2); injection ea_ with ea_ en_ ec_; subst ea_; subst ec_; clear en_; have p150 : 0 ≤ (x5_1 : Int) := od_; have q150 : x5_1 < (l1.length : Int) := od_; obtain ⟨ad150, A150_1, c150_1, A150_2, c150_2, e150, hx150_0, hx150_1, hx150_2, hl150_1, hi150_1, hl150_2, hi150_2⟩ := at_T36 HR1.out x5_1 p150 q150; obtain rfl : ad147 = ad150 := (by injection e150); have HR150_1 := Aside0.mk hi150_1; have HC150_1 := Aside0.mk hl150_1; clear hi150_1 hl150_1; have HR150_2 := Aside0.mk hi150_2; have HC150_2 := Aside0.mk hl150_2; clear hi150_2 hl150_2; replace p150 := eq_true p150; replace q150 := eq_true q150; have ea_ := Option.some.inj (hx147_1.symm.trans hx150_1); injection ea_ with ea_ en_ ec_; subst ea_; subst ec_; clear en_; have ea_ := Option.some.inj (hx147_2.symm.trans hx150_2); injection ea_ with ea_ en_ ec_; subst ea_; subst ec_; clear en_)))
                  go_ret
                  exact ⟨by first | rfl | (simp; done) | (simp [*]; done), by repeat (first | exact Drawn0.refl _ | apply Drawn0.step)⟩
              · replace c8 := Bool.eq_false_iff.mpr c8
                subst c8
                have H1 : (some false) = some r := by rw [if_neg (show ¬ (false = true) by decide)] at H; exact H
                clear H
                have H := H1
                clear H1
                obtain rfl := Option.some.inj H
                have p146 : 0 ≤ (x5_1 : Int) := od_
                have q146 : x5_1 < (l0.length : Int) := od_
                obtain ⟨ad146, A146_1, c146_1, A146_2, c146_2, e146, hx146_0, hx146_1, hx146_2, hl146_1, hi146_1, hl146_2, hi146_2⟩ := at_T36 HR0.out x5_1 p146 q146
                cases e146
                have HR146_1 := Aside0.mk hi146_1
                have HC146_1 := Aside0.mk hl146_1
                clear hi146_1 hl146_1
                have HR146_2 := Aside0.mk hi146_2
                have HC146_2 := Aside0.mk hl146_2
                clear hi146_2 hl146_2
                replace p146 := eq_true p146
                replace q146 := eq_true q146
                have p147 : 0 ≤ (x5_1 : Int) := od_
                have q147 : x5_1 < (l1.length : Int) := od_
                obtain ⟨ad147, A147_1, c147_1, A147_2, c147_2, e147, hx147_0, hx147_1, hx147_2, hl147_1, hi147_1, hl147_2, hi147_2⟩ := at_T36 HR1.out x5_1 p147 q147
                cases e147
                have HR147_1 := Aside0.mk hi147_1
                have HC147_1 := Aside0.mk hl147_1
                clear hi147_1 hl147_1
                have HR147_2 := Aside0.mk hi147_2
                have HC147_2 := Aside0.mk hl147_2
                clear hi147_2 hl147_2
                replace p147 := eq_true p147
                replace q147 := eq_true q147
                go_wp2_with (first | (go_at_call 23; (with_reducible refine (fullerref02_Same.calls k1 _ _ ((rd_T36 l0 x5_1).f1) _ _ ((rd_T36 l1 x5_1).f1) false _ ?side1 ?side2 ?side3 ?side4 A7.out).mono ?_); (case side1 => exact mvC_ (HR146_1.out)); (case side2 => exact HC146_1.out); (case side3 => exact mvC_ (HR147_1.out)); (case side4 => exact HC147_1.out); rintro e w' ⟨rfl, ⟨nd, rfl⟩⟩; (try first | exact ⟨rfl, _, World.drewN_drewN _ _ _⟩ | exact ⟨rfl, _, Eq.trans (World.drewN_drewN _ _ _) (congrArg (World.drewN _) (Nat.add_assoc _ _ _))⟩)))
                repeat (go_quiet (first | (go_at_call 23; (with_reducible refine (fullerref02_Same.calls k1 _ _ ((rd_T36 l0 x5_1).f1) _ _ ((rd_T36 l1 x5_1).f1) false _ ?side1 ?side2 ?side3 ?side4 A7.out).mono ?_); (case side1 => exact mvC_ (HR146_1.out)); (case side2 => exact HC146_1.out); (case side3 => exact mvC_ (HR147_1.out)); (case side4 => exact HC147_1.out); rintro e w' ⟨rfl, ⟨nd, rfl⟩⟩; (try first | exact ⟨rfl, _, World.drewN_drewN _ _ _⟩ | exact ⟨rfl, _, Eq.trans (World.drewN_drewN _ _ _) (congrArg (World.drewN _) (Nat.add_assoc _ _ _))⟩))); try go_wp2_with (first | (go_at_call 23; (with_reducible refine (fullerref02_Same.calls k1 _ _ ((rd_T36 l0 x5_1).f1) _ _ ((rd_T36 l1 x5_1).f1) false _ ?side1 ?side2 ?side3 ?side4 A7.out).mono ?_); (case side1 => exact mvC_ (HR146_1.out)); (case side2 => exact HC146_1.out); (case side3 => exact mvC_ (HR147_1.out)); (case side4 => exact HC147_1.out); rintro e w' ⟨rfl, ⟨nd, rfl⟩⟩; (try first | exact ⟨rfl, _, World.drewN_drewN _ _ _⟩ | exact ⟨rfl, _, Eq.trans (World.drewN_drewN _ _ _) (congrArg (World.drewN _) (Nat.add_assoc _ _ _))⟩))))
                go_ret
                exact ⟨by first | rfl | (simp; done) | (simp [*]; done), by repeat (first | exact Drawn0.refl _ | apply Drawn0.step)⟩
            · rw [if_neg c6] at H
              exact absurd H (by simp)
          · rw [if_neg c5] at H
            exact absurd H (by simp)
        · rw [if_neg c4] at H
          have c4b0 : decide (x5_1 < (l0.length : Int)) = false := decide_eq_false c4
          clear c4
          obtain rfl := Option.some.inj H
          go_wp2
          repeat (go_quiet (fail); try go_wp2)
          go_ret
          exact ⟨by first | rfl | (simp; done) | (simp [*]; done), by repeat (first | exact Drawn0.refl _ | apply Drawn0.step)⟩
  · rw [if_neg c3] at H
    have c3b0 : ((l0.length : Int) == (l1.length : Int)) = false := beq_eq_false_iff_ne.mpr c3
    have c3b1 : ((l0.length : Int) != (l1.length : Int)) = true := bne_iff_ne.mpr c3
    have c3b2 : (l0.length == l1.length) = false := by first | simpa using c3 | (simp at c3 ⊢; omega)
    obtain rfl := Option.some.inj H
    go_enter Try.func13, Try.ntmps13
    go_wp2
    repeat (go_quiet (fail); try go_wp2)
    go_ret
    exact ⟨by first | rfl | (simp; done) | (simp [*]; done), by repeat (first | exact Drawn0.refl _ | apply Drawn0.step)⟩

/-! ### fullerlaw12_awake: function 7 -/
def fullerlaw12_awake.f (k : Nat)  : Option (Bool) := (some (([(⟨3, ([] : List Int), (([1] : List Int))⟩ : S36)] : List (S36)) : List (S36))).bind fun y157 => ((wire_Write.f k y157).bind fun bt160 => ((wire_Read.f bt160.1).bind fun bt164 => ((wire_Write.f k ([] : List (S36))).bind fun bt168 => ((wire_Read.f ([] : List Int)).bind fun bt172 => (if (strOfNums bt160.1).toList = ([1, 3, 0, 1, 0, 0, 0, 0, 0, 0, 0, 1] : List UInt8) then (if bt160.2 = 0 then ((fullerref10_Same.f k bt164.1 y157).bind fun t176 => (if t176 = true then (if bt164.2 = 0 then (if bt168.2 = 100 then (if bt172.2 = 120 then (some true) else (none)) else (none)) else (none)) else (none))) else (none)) else (none))))))
theorem fullerlaw12_awake.mono : ∀ k, LeO (fullerlaw12_awake.f k ) (fullerlaw12_awake.f (k + 1) ) := by
  intro  k
  unfold fullerlaw12_awake.f
  repeat' first
      | (with_reducible exact fullerref10_Same.mono _ _ _)
      | (with_reducible exact wire_Write.mono _ _)
      | (with_reducible exact LeO.refl _)
      | (with_reducible exact LeO.none _)
      | (with_reducible refine LeO.ite ?_ ?_)
      | (with_reducible refine LeO.bind ?_ (fun _ => ?_))
      | exact fullerref10_Same.mono _ _ _
      | exact wire_Write.mono _ _
      | exact LeO.none _
      | refine LeO.ite ?_ ?_
      | refine LeO.bind ?_ (fun _ => ?_)
set_option maxHeartbeats 8000000 in
set_option maxRecDepth 100000 in
theorem fullerlaw12_awake.calls (k : Nat)  (r : Bool) (w : World) (h : fullerlaw12_awake.f k  = some r) :
    Calls Try.prog 7 #[] w fun e w' => e = .returned (.bool r) ∧ Below w.heap.size w w' := by
  have hu36 := Try.underlying36
  have HB := Aside0.mk (Below.refl w.heap.size w)
  have H : ((some (([(⟨3, ([] : List Int), (([1] : List Int))⟩ : S36)] : List (S36)) : List (S36))).bind fun y157 => ((wire_Write.f k y157).bind fun bt160 => ((wire_Read.f bt160.1).bind fun bt164 => ((wire_Write.f k ([] : List (S36))).bind fun bt168 => ((wire_Read.f ([] : List Int)).bind fun bt172 => (if (strOfNums bt160.1).toList = ([1, 3, 0, 1, 0, 0, 0, 0, 0, 0, 0, 1] : List UInt8) then (if bt160.2 = 0 then ((fullerref10_Same.f k bt164.1 y157).bind fun t176 => (if t176 = true then (if bt164.2 = 0 then (if bt168.2 = 100 then (if bt172.2 = 120 then (some true) else (none)) else (none)) else (none)) else (none))) else (none)) else (none))))))) = some r := h
  clear h
  obtain ⟨y154, hy154⟩ : ∃ y_ : List Int, y_ = (([1] : List Int)) := ⟨_, rfl⟩
  replace H : ((some (([(⟨3, ([] : List Int), y154⟩ : S36)] : List (S36)) : List (S36))).bind fun y157 => ((wire_Write.f k y157).bind fun bt160 => ((wire_Read.f bt160.1).bind fun bt164 => ((wire_Write.f k ([] : List (S36))).bind fun bt168 => ((wire_Read.f ([] : List Int)).bind fun bt172 => (if (strOfNums bt160.1).toList = ([1, 3, 0, 1, 0, 0, 0, 0, 0, 0, 0, 1] : List UInt8) then (if bt160.2 = 0 then ((fullerref10_Same.f k bt164.1 y157).bind fun t176 => (if t176 = true then (if bt164.2 = 0 then (if bt168.2 = 100 then (if bt172.2 = 120 then (some true) else (none)) else (none)) else (none)) else (none))) else (none)) else (none))))))) = some r := by first | (rw [hy154]; with_reducible exact H) | (have H2_ := (Option.bind_some _ _).symm.trans H; rw [hy154]; with_reducible exact H2_) | (have H2_ := (Option.bind_some _ _).symm.trans H; with_reducible exact H2_) | with_reducible exact H | (rw [hy154]; exact H) | exact H
  have Ny154 := Aside0.mk hy154
  clear hy154
  obtain ⟨y157, hy157⟩ : ∃ y_ : List (S36), y_ = (([(⟨3, ([] : List Int), y154⟩ : S36)] : List (S36))) := ⟨_, rfl⟩
  replace H : ((wire_Write.f k y157).bind fun bt160 => ((wire_Read.f bt160.1).bind fun bt164 => ((wire_Write.f k ([] : List (S36))).bind fun bt168 => ((wire_Read.f ([] : List Int)).bind fun bt172 => (if (strOfNums bt160.1).toList = ([1, 3, 0, 1, 0, 0, 0, 0, 0, 0, 0, 1] : List UInt8) then (if bt160.2 = 0 then ((fullerref10_Same.f k bt164.1 y157).bind fun t176 => (if t176 = true then (if bt164.2 = 0 then (if bt168.2 = 100 then (if bt172.2 = 120 then (some true) else (none)) else (none)) else (none)) else (none))) else (none)) else (none)))))) = some r := by first | (rw [hy157]; with_reducible exact H) | (have H2_ := (Option.bind_some _ _).symm.trans H; rw [hy157]; with_reducible exact H2_) | (have H2_ := (Option.bind_some _ _).symm.trans H; with_reducible exact H2_) | with_reducible exact H | (rw [hy157]; exact H) | exact H
  have Ny157 := Aside0.mk hy157
  clear hy157
  replace H := Option.bind_eq_some_iff.mp H
  obtain ⟨⟨t160, t161⟩, A10, H⟩ := H
  replace H : ((wire_Read.f t160).bind fun bt164 => ((wire_Write.f k ([] : List (S36))).bind fun bt168 => ((wire_Read.f ([] : List Int)).bind fun bt172 => (if (strOfNums t160).toList = ([1, 3, 0, 1, 0, 0, 0, 0, 0, 0, 0, 1] : List UInt8) then (if t161 = 0 then ((fullerref10_Same.f k bt164.1 y157).bind fun t176 => (if t176 = true then (if bt164.2 = 0 then (if bt168.2 = 100 then (if bt172.2 = 120 then (some true) else (none)) else (none)) else (none)) else (none))) else (none)) else (none))))) = some r := H
  have A1 := Aside0.mk A10
  clear A10
  replace H := Option.bind_eq_some_iff.mp H
  obtain ⟨⟨t164, t165⟩, A20, H⟩ := H
  replace H : ((wire_Write.f k ([] : List (S36))).bind fun bt168 => ((wire_Read.f ([] : List Int)).bind fun bt172 => (if (strOfNums t160).toList = ([1, 3, 0, 1, 0, 0, 0, 0, 0, 0, 0, 1] : List UInt8) then (if t161 = 0 then ((fullerref10_Same.f k t164 y157).bind fun t176 => (if t176 = true then (if t165 = 0 then (if bt168.2 = 100 then (if bt172.2 = 120 then (some true) else (none)) else (none)) else (none)) else (none))) else (none)) else (none)))) = some r := H
  have A2 := Aside0.mk A20
  clear A20
  replace H := Option.bind_eq_some_iff.mp H
  obtain ⟨⟨t168, t169⟩, A30, H⟩ := H
  replace H : ((wire_Read.f ([] : List Int)).bind fun bt172 => (if (strOfNums t160).toList = ([1, 3, 0, 1, 0, 0, 0, 0, 0, 0, 0, 1] : List UInt8) then (if t161 = 0 then ((fullerref10_Same.f k t164 y157).bind fun t176 => (if t176 = true then (if t165 = 0 then (if t169 = 100 then (if bt172.2 = 120 then (some true) else (none)) else (none)) else (none)) else (none))) else (none)) else (none))) = some r := H
  have A3 := Aside0.mk A30
  clear A30
  replace H := Option.bind_eq_some_iff.mp H
  obtain ⟨⟨t172, t173⟩, A40, H⟩ := H
  replace H : (if (strOfNums t160).toList = ([1, 3, 0, 1, 0, 0, 0, 0, 0, 0, 0, 1] : List UInt8) then (if t161 = 0 then ((fullerref10_Same.f k t164 y157).bind fun t176 => (if t176 = true then (if t165 = 0 then (if t169 = 100 then (if t173 = 120 then (some true) else (none)) else (none)) else (none)) else (none))) else (none)) else (none)) = some r := H
  have A4 := Aside0.mk A40
  clear A40
  by_cases c5 : (strOfNums t160).toList = ([1, 3, 0, 1, 0, 0, 0, 0, 0, 0, 0, 1] : List UInt8)
  · rw [if_pos c5] at H
    have c5b0 : ((strOfNums t160).toList == ([1, 3, 0, 1, 0, 0, 0, 0, 0, 0, 0, 1] : List UInt8)) = true := beq_iff_eq.mpr c5
    have c5b1 : ((strOfNums t160).toList != ([1, 3, 0, 1, 0, 0, 0, 0, 0, 0, 0, 1] : List UInt8)) = false := bne_eq_false_iff_eq.mpr c5
    clear c5
    by_cases c6 : t161 = 0
    · rw [if_pos c6] at H
      have c6b0 : (t161 == 0) = true := beq_iff_eq.mpr c6
      have c6b1 : (t161 != 0) = false := bne_eq_false_iff_eq.mpr c6
      clear c6
      replace H := Option.bind_eq_some_iff.mp H
      obtain ⟨t176, A70, H⟩ := H
      replace H : (if t176 = true then (if t165 = 0 then (if t169 = 100 then (if t173 = 120 then (some true) else (none)) else (none)) else (none)) else (none)) = some r := H
      have A7 := Aside0.mk A70
      clear A70
      by_cases c8 : t176 = true
      · subst c8
        have H1 : (if t165 = 0 then (if t169 = 100 then (if t173 = 120 then (some true) else (none)) else (none)) else (none)) = some r := by rw [if_pos rfl] at H; exact H
        clear H
        have H := H1
        clear H1
        by_cases c9 : t165 = 0
        · rw [if_pos c9] at H
          have c9b0 : (t165 == 0) = true := beq_iff_eq.mpr c9
          have c9b1 : (t165 != 0) = false := bne_eq_false_iff_eq.mpr c9
          clear c9
          by_cases c10 : t169 = 100
          · rw [if_pos c10] at H
            have c10b0 : (t169 == 100) = true := beq_iff_eq.mpr c10
            have c10b1 : (t169 != 100) = false := bne_eq_false_iff_eq.mpr c10
            clear c10
            by_cases c11 : t173 = 120
            · rw [if_pos c11] at H
              have c11b0 : (t173 == 120) = true := beq_iff_eq.mpr c11
              have c11b1 : (t173 != 120) = false := bne_eq_false_iff_eq.mpr c11
              clear c11
              obtain rfl := Option.some.inj H
              go_enter Try.func7, Try.ntmps7
              go_wp2_with (first | ((with_reducible refine gate_dst (N := 10) rfl ?_); refine Kd.R_lit (Kd.int .i64) _ 3 ?hg (N := 10) ?hd (xs := ([1] : List Int)) (inner := [.int .i64 1]) (ok := fun _ => True) (okp := fun _ => True) ?hr ?hp (fun _ hk => hk) trivial (Below.refl _ _) (Nat.le_refl _) (by simp) ?_; (case hd => rfl); (case hg => rfl); (case hr => first | (go_simp; done) | (go_simp; rfl)); (case hp => exact (Reps.one (show Kd.M (Kd.int .i64) _ _ _ 1 [.int .i64 1] from rfl) (Reps.none _ _))); intro v155 w12 ho13 hb hg_ hnew_; clear hg_ hnew_; (first | rw [← Ny154.out] at ho13 | (simp only [Int.reduceToNat] at ho13; rw [← Ny154.out] at ho13)); have n0_ := Aside0.mk (Kd.R_lower ho13 (below_size (bq0_ HB.out))); have n1_ := Aside0.mk (below_step (bq0_ HB.out) hb); clear HB; have HO156 := n0_; have HB := n1_; clear n0_ n1_; clear hb ho13; obtain ⟨Ao14, co14, eo14⟩ := Kd.R_slice HO156.out; subst eo14) | ((with_reducible refine gate_dst (N := 12) rfl ?_); refine Kd.N_lit k36 _ 36 ?hg (N' := 12) ?hd (xs := ([(⟨3, ([] : List Int), y154⟩ : S36)] : List (S36))) (inner := [.int .i64 3, .slice none 0 0, .slice Ao14 y154.length co14]) (ok := (fun _ => True)) (okp := (fun _ => True)) ?hr ?hp (fun _ hk => hk) ((show ∀ k_, w12.heap.size ≤ k_ → (fun _ => True) k_ from fun k_ hk => trivial) _ (Nat.le_refl _)) (Below.refl _ _) (Nat.le_refl _) (by simp) ?_; (case hd => rfl); (case hg => rfl); (case hr => first | (go_simp; done) | (go_simp; rfl)); (case hp => exact (Reps.c3 (show Kd.FK k36 _ _ (⟨3, ([] : List Int), y154⟩ : S36) [.int .i64 3, .slice none 0 0, .slice Ao14 y154.length co14] from (k36_mkF _ _ (⟨3, ([] : List Int), y154⟩ : S36) (Nat.le_refl _) (Kd.F_nil _ _ _) (Kd.R_reads' (Kd.R_mono (ok' := (fun _ => True)) (HO156.out) (fun k_ hk => trivial))).2.1 (Kd.R_F (Kd.R_mono (ok' := (fun _ => True)) (HO156.out) (fun k_ hk => trivial))))) (Reps.none _ _))); intro v158 w15 ho16 hb hg_ hnew_; clear hg_ hnew_; (first | rw [← Ny157.out] at ho16 | (simp only [Int.reduceToNat] at ho16; rw [← Ny157.out] at ho16)); have n0_ := Aside0.mk (Kd.N_lower ho16 (below_size (bq0_ HB.out))); have n1_ := Aside0.mk (below_step (bq0_ HB.out) hb); clear HB; clear HO156; have HO159 := n0_; have HB := n1_; clear n0_ n1_; clear hb ho16; obtain ⟨Ao17, co17, eo17⟩ := Kd.N_slice HO159.out; subst eo17) | ((with_reducible refine gate_callee (f := 9) rfl ?_); refine goesL_ (some 15) rfl rfl Try.func9 (by kernel_rfl) rfl #[.slice Ao17 y157.length co17] rfl (by (try simp only [List.map_toArray, List.map_cons, List.map_nil]); first | done | rfl | (simp only [List.length_drop, List.length_take]; rfl)) ?_; (with_reducible refine (wire_Write.calls k _ _ y157 t160 t161 _ ?side1 ?side2 A1.out).mono ?_); (case side1 => exact mvC_ ((Kd.N_reads' HO159.out).2.2)); (case side2 => exact (Kd.N_reads' HO159.out).2.1); rintro e w18 ⟨v162, rfl, ho0, hb⟩; refine ⟨_, rfl, ?_⟩; have n0_ := Aside0.mk (Kd.N_elder' (mvN_ HO159.out) (Kd.R_base ho0) hb); have n1_ := Aside0.mk (Kd.R_lower ho0 (below_size (bq0_ HB.out))); have n2_ := Aside0.mk (below_step (bq0_ HB.out) hb); clear HO159; clear HB; have HO159 := n0_; have HO163 := n1_; have HB := n2_; clear n0_ n1_ n2_; (try clear hb); (try clear ho0); obtain ⟨Ao19, co19, eo19⟩ := Kd.R_slice HO163.out; subst eo19) | ((with_reducible refine gate_callee (f := 11) rfl ?_); refine goesL_ (some 20) rfl rfl Try.func11 (by kernel_rfl) rfl #[.slice Ao19 t160.length co19] rfl (by (try simp only [List.map_toArray, List.map_cons, List.map_nil]); first | done | rfl | (simp only [List.length_drop, List.length_take]; rfl)) ?_; (with_reducible refine (wire_Read.calls _ _ t160 t164 t165 _ ?side1 ?side2 A2.out).mono ?_); (case side1 => exact mvC_ ((Kd.R_reads' HO163.out).2.2)); (case side2 => exact (Kd.R_reads' HO163.out).2.1); rintro e w20 ⟨v166, rfl, ho0, hb⟩; refine ⟨_, rfl, ?_⟩; have n0_ := Aside0.mk (Kd.N_elder' (mvN_ HO159.out) (Kd.R_base ho0) hb); have n1_ := Aside0.mk (Kd.R_below (mvR_ HO163.out) hb); have n2_ := Aside0.mk (Kd.N_lower (Kd.N_mono (ok' := fun k_ => some k_ ≠ (.slice Ao17 y157.length co17 : Value).ownBlock ∧ some k_ ≠ (.slice Ao19 t160.length co19 : Value).ownBlock) (Kd.R_N (Kd.R_bound ho0)) (fun k_ hk_ => ⟨(Kd.fresh' (Kd.N_lt (mvN_ HO159.out)) k_ hk_.2.1), (Kd.fresh' (Kd.R_lt (mvR_ HO163.out)) k_ hk_.2.1)⟩)) (below_size (bq0_ HB.out))); have n3_ := Aside0.mk (below_step (bq0_ HB.out) hb); clear HO159; clear HO163; clear HB; have HO159 := n0_; have HO163 := n1_; have HO167 := n2_; have HB := n3_; clear n0_ n1_ n2_ n3_; (try clear hb); (try clear ho0)) | ((with_reducible refine gate_callee (f := 9) rfl ?_); refine goesL_ (some 24) rfl rfl Try.func9 (by kernel_rfl) rfl #[.slice none 0 0] rfl (by (try simp only [List.map_toArray, List.map_cons, List.map_nil]); first | done | rfl | (simp only [List.length_drop, List.length_take]; rfl)) ?_; (refine (wire_Write.calls k _ _ ([] : List (S36)) t168 t169 _ ?side1 ?side2 A3.out).mono ?_); (case side1 => exact Kd.C_nil _ _); (case side2 => exact Nat.le_refl _); rintro e w21 ⟨v170, rfl, ho0, hb⟩; refine ⟨_, rfl, ?_⟩; have n0_ := Aside0.mk (Kd.N_elder' (mvN_ HO159.out) (Kd.R_base ho0) hb); have n1_ := Aside0.mk (Kd.R_elder' (mvR_ HO163.out) (Kd.R_base ho0) hb); have n2_ := Aside0.mk (Kd.N_elder' (mvN_ HO167.out) (Kd.R_base ho0) hb); have n3_ := Aside0.mk (Kd.R_lower (Kd.R_new' ho0 (Kd.R_lt (mvR_ HO163.out))) (below_size (bq0_ HB.out))); have n4_ := Aside0.mk (below_step (bq0_ HB.out) hb); clear HO159; clear HO163; clear HO167; clear HB; have HO159 := n0_; have HO163 := n1_; have HO167 := n2_; have HO171 := n3_; have HB := n4_; clear n0_ n1_ n2_ n3_ n4_; (try clear hb); (try clear ho0)) | ((with_reducible refine gate_callee (f := 11) rfl ?_); refine goesL_ (some 28) rfl rfl Try.func11 (by kernel_rfl) rfl #[.slice none 0 0] rfl (by (try simp only [List.map_toArray, List.map_cons, List.map_nil]); first | done | rfl | (simp only [List.length_drop, List.length_take]; rfl)) ?_; (refine (wire_Read.calls _ _ ([] : List Int) t172 t173 _ ?side1 ?side2 A4.out).mono ?_); (case side1 => exact Kd.C_nil _ _); (case side2 => exact Nat.le_refl _); rintro e w22 ⟨v174, rfl, ho0, hb⟩; refine ⟨_, rfl, ?_⟩; have n0_ := Aside0.mk (Kd.N_elder' (mvN_ HO159.out) (Kd.R_base ho0) hb); have n1_ := Aside0.mk (Kd.R_below (mvR_ HO163.out) hb); have n2_ := Aside0.mk (Kd.N_elder' (mvN_ HO167.out) (Kd.R_base ho0) hb); have n3_ := Aside0.mk (Kd.R_below (mvR_ HO171.out) hb); have n4_ := Aside0.mk (Kd.N_lower (Kd.N_mono (ok' := fun k_ => some k_ ≠ (.slice Ao17 y157.length co17 : Value).ownBlock ∧ some k_ ≠ (.slice Ao19 t160.length co19 : Value).ownBlock ∧ some k_ ≠ (v166 : Value).ownBlock ∧ some k_ ≠ (v170 : Value).ownBlock) (Kd.R_N (Kd.R_bound ho0)) (fun k_ hk_ => ⟨(Kd.fresh' (Kd.N_lt (mvN_ HO159.out)) k_ hk_.2.1), (Kd.fresh' (Kd.R_lt (mvR_ HO163.out)) k_ hk_.2.1), (Kd.fresh' (Kd.N_lt (mvN_ HO167.out)) k_ hk_.2.1), (Kd.fresh' (Kd.R_lt (mvR_ HO171.out)) k_ hk_.2.1)⟩)) (below_size (bq0_ HB.out))); have n5_ := Aside0.mk (below_step (bq0_ HB.out) hb); clear HO159; clear HO163; clear HO167; clear HO171; clear HB; have HO159 := n0_; have HO163 := n1_; have HO167 := n2_; have HO171 := n3_; have HO175 := n4_; have HB := n5_; clear n0_ n1_ n2_ n3_ n4_ n5_; (try clear hb); (try clear ho0); have hcv23 := own_string (P := Try.prog) Try.underlying23 Try.underlying5 Try.underlying9 (Kd.own_of_R HO163.out); obtain ⟨Ao24, co24, eo24⟩ := Kd.N_slice HO167.out; subst eo24) | (go_at_call 13; (with_reducible refine (fullerref10_Same.calls k _ _ t164 _ _ y157 true _ ?side1 ?side2 ?side3 ?side4 A7.out).mono ?_); (case side1 => exact mvC_ ((Kd.N_reads' HO167.out).2.2)); (case side2 => exact (Kd.N_reads' HO167.out).2.1); (case side3 => exact mvC_ ((Kd.N_reads' HO159.out).2.2)); (case side4 => exact (Kd.N_reads' HO159.out).2.1); rintro e w' ⟨rfl, ⟨nd, rfl⟩⟩))
              go_ret
              exact ⟨by first | rfl | (simp [errW_none, errW_some] <;> rfl) | (simp [*, errW_none, errW_some] <;> rfl), by repeat (first | (with_reducible first | exact HB.out | apply below_alloc | apply pw_below_drewN | apply below_drew1) | exact HB.out)⟩
            · rw [if_neg c11] at H
              exact absurd H (by simp)
          · rw [if_neg c10] at H
            exact absurd H (by simp)
        · rw [if_neg c9] at H
          exact absurd H (by simp)
      · replace c8 := Bool.eq_false_iff.mpr c8
        subst c8
        have H1 : (none) = some r := by rw [if_neg (show ¬ (false = true) by decide)] at H; exact H
        clear H
        have H := H1
        clear H1
        exact absurd H (by simp)
    · rw [if_neg c6] at H
      exact absurd H (by simp)
  · rw [if_neg c5] at H
    exact absurd H (by simp)

/-! ### fullerref10_Few: function 8 -/
def fullerref10_Few.l0 : Nat → List (S36) → Int → Option (Bool)
  | 0, _, _ => none
  | k + 1, x0, x3 => if x3 < (x0.length : Int) then (if 0 ≤ x3 then (if (((rd_T36 x0 x3).f1).length : Int) > 30 then (some false) else (if (((rd_T36 x0 x3).f2).length : Int) > 30 then (some false) else (fullerref10_Few.l0 k x0 (wrap64 (x3 + 1))))) else (none)) else (some (decide ((x0.length : Int) ≤ 30)))
def fullerref10_Few.f (k : Nat) (l0 : List (S36)) : Option (Bool) := fullerref10_Few.l0 k l0 0
theorem fullerref10_Few.mono_l : ∀ k, (∀ y0 y1, LeO (fullerref10_Few.l0 k y0 y1) (fullerref10_Few.l0 (k + 1) y0 y1))
  | 0 => fun _ _ r h => by simp [fullerref10_Few.l0] at h
  | k + 1 => by
    have ih0 := fullerref10_Few.mono_l k
    · intro y0 y1
      unfold fullerref10_Few.l0
      repeat' first
      | (with_reducible exact ih0 _ _)
      | (with_reducible exact LeO.refl _)
      | (with_reducible exact LeO.none _)
      | (with_reducible refine LeO.ite ?_ ?_)
      | (with_reducible refine LeO.bind ?_ (fun _ => ?_))
      | exact ih0 _ _
      | exact LeO.none _
      | refine LeO.ite ?_ ?_
      | refine LeO.bind ?_ (fun _ => ?_)
theorem fullerref10_Few.mono : ∀ a0 k, LeO (fullerref10_Few.f k a0) (fullerref10_Few.f (k + 1) a0) := by
  intro a0 k
  have ih0 := fullerref10_Few.mono_l k
  unfold fullerref10_Few.f
  repeat' first
      | (with_reducible exact ih0 _ _)
      | (with_reducible exact LeO.refl _)
      | (with_reducible exact LeO.none _)
      | (with_reducible refine LeO.ite ?_ ?_)
      | (with_reducible refine LeO.bind ?_ (fun _ => ?_))
      | exact ih0 _ _
      | exact LeO.none _
      | refine LeO.ite ?_ ?_
      | refine LeO.bind ?_ (fun _ => ?_)
set_option maxHeartbeats 8000000 in
set_option maxRecDepth 100000 in
theorem fullerref10_Few.calls (k : Nat) (A0 : Option Addr) (c0 : Nat) (l0 : List (S36)) (r : Bool) (w : World) (hr0 : Kd.C k36 w A0 l0.length l0) (hc0 : l0.length ≤ c0) (h : fullerref10_Few.f k l0 = some r) :
    Calls Try.prog 8 #[.slice A0 l0.length c0] w fun e w' => e = .returned (.bool r) ∧ Drawn0 w w' := by
  have HR0 := Aside0.mk hr0
  have HC0 := Aside0.mk hc0
  clear hr0 hc0
  have H : (fullerref10_Few.l0 k l0 0) = some r := h
  clear h
  have H' := Aside0.mk H
  clear H
  go_enter Try.func8, Try.ntmps8
  go_wp2
  go_loopg [3] k (fun kq v3 w' => ∃ (x3_1 : Int), v3 = .int .i64 x3_1 ∧ Aside0 (fullerref10_Few.l0 kq l0 x3_1 = some r) ∧ Aside0 (kq ≤ k) ∧ Drawn0 w w')
  case atStart => exact ⟨(0), (by first | rfl | (simp; done) | (simp [*]; done)), H', ⟨Nat.le_refl _⟩, by repeat (first | exact Drawn0.refl _ | apply Drawn0.step)⟩
  case round =>
    clear H'
    obtain ⟨x3_1, rfl, HA, HK1, ⟨m1, rfl⟩⟩ := hrel
    cases gk with
    | zero => exact absurd HA.out (by simp [fullerref10_Few.l0])
    | succ k1 =>
      have H := HA.out
      clear HA
      simp only [fullerref10_Few.l0] at H
      by_cases c2 : x3_1 < (l0.length : Int)
      · rw [if_pos c2] at H
        have c2b0 : decide (x3_1 < (l0.length : Int)) = true := decide_eq_true c2
        clear c2
        by_cases c3 : 0 ≤ x3_1
        · rw [if_pos c3] at H
          have c3b0 : decide (0 ≤ x3_1) = true := decide_eq_true c3
          clear c3
          by_cases c4 : (((rd_T36 l0 x3_1).f1).length : Int) > 30
          · rw [if_pos c4] at H
            have c4b0 : decide (30 < (((rd_T36 l0 x3_1).f1).length : Int)) = true := decide_eq_true c4
            have c4b1 : decide (30 < ((rd_T36 l0 x3_1).f1).length) = true := decide_eq_true (by omega)
            clear c4
            obtain rfl := Option.some.inj H
            have p177 : 0 ≤ (x3_1 : Int) := of_decide_eq_true (by first | (with_reducible assumption) | assumption)
            have q177 : x3_1 < (l0.length : Int) := of_decide_eq_true (by first | (with_reducible assumption) | assumption)
            obtain ⟨ad177, A177_1, c177_1, A177_2, c177_2, e177, hx177_0, hx177_1, hx177_2, hl177_1, hi177_1, hl177_2, hi177_2⟩ := at_T36 HR0.out x3_1 p177 q177
            cases e177
            have HR177_1 := Aside0.mk hi177_1
            have HC177_1 := Aside0.mk hl177_1
            clear hi177_1 hl177_1
            have HR177_2 := Aside0.mk hi177_2
            have HC177_2 := Aside0.mk hl177_2
            clear hi177_2 hl177_2
            replace p177 := eq_true p177
            replace q177 := eq_true q177
            go_wp2
            go_ret
            exact ⟨by first | rfl | (simp; done) | (simp [*]; done), by repeat (first | exact Drawn0.refl _ | apply Drawn0.step)⟩
          · rw [if_neg c4] at H
            have c4b0 : decide (30 < (((rd_T36 l0 x3_1).f1).length : Int)) = false := decide_eq_false c4
            have c4b1 : decide (30 < ((rd_T36 l0 x3_1).f1).length) = false := decide_eq_false (by omega)
            clear c4
            by_cases c5 : (((rd_T36 l0 x3_1).f2).length : Int) > 30
            · rw [if_pos c5] at H
              have c5b0 : decide (30 < (((rd_T36 l0 x3_1).f2).length : Int)) = true := decide_eq_true c5
              have c5b1 : decide (30 < ((rd_T36 l0 x3_1).f2).length) = true := decide_eq_true (by omega)
              clear c5
              obtain rfl := Option.some.inj H
              have p177 : 0 ≤ (x3_1 : Int) := of_decide_eq_true (by first | (with_reducible assumption) | assumption)
              have q177 : x3_1 < (l0.length : Int) := of_decide_eq_true (by first | (with_reducible assumption) | assumption)
              obtain ⟨ad177, A177_1, c177_1, A177_2, c177_2, e177, hx177_0, hx177_1, hx177_2, hl177_1, hi177_1, hl177_2, hi177_2⟩ := at_T36 HR0.out x3_1 p177 q177
              cases e177
              have HR177_1 := Aside0.mk hi177_1
              have HC177_1 := Aside0.mk hl177_1
              clear hi177_1 hl177_1
              have HR177_2 := Aside0.mk hi177_2
              have HC177_2 := Aside0.mk hl177_2
              clear hi177_2 hl177_2
              replace p177 := eq_true p177
              replace q177 := eq_true q177
              have p178 : 0 ≤ (x3_1 : Int) := of_decide_eq_true (by first | (with_reducible assumption) | assumption)
              have q178 : x3_1 < (l0.length : Int) := of_decide_eq_true (by first | (with_reducible assumption) | assumption)
              obtain ⟨ad178, A178_1, c178_1, A178_2, c178_2, e178, hx178_0, hx178_1, hx178_2, hl178_1, hi178_1, hl178_2, hi178_2⟩ := at_T36 HR0.out x3_1 p178 q178
              obtain rfl : ad177 = ad178 := (by injection e178)
              have HR178_1 := Aside0.mk hi178_1
              have HC178_1 := Aside0.mk hl178_1
              clear hi178_1 hl178_1
              have HR178_2 := Aside0.mk hi178_2
              have HC178_2 := Aside0.mk hl178_2
              clear hi178_2 hl178_2
              replace p178 := eq_true p178
              replace q178 := eq_true q178
              have ea_ := Option.some.inj (hx177_1.symm.trans hx178_1)
              injection ea_ with ea_ en_ ec_
              subst ea_
              subst ec_
              clear en_
              have ea_ := Option.some.inj (hx177_2.symm.trans hx178_2)
              injection ea_ with ea_ en_ ec_
              subst ea_
              subst ec_
              clear en_
              go_wp2
              go_ret
              exact ⟨by first | rfl | (simp; done) | (simp [*]; done), by repeat (first | exact Drawn0.refl _ | apply Drawn0.step)⟩
            · rw [if_neg c5] at H
              have c5b0 : decide (30 < (((rd_T36 l0 x3_1).f2).length : Int)) = false := decide_eq_false c5
              have c5b1 : decide (30 < ((rd_T36 l0 x3_1).f2).length) = false := decide_eq_false (by omega)
              clear c5
              have H' := Aside0.mk H
              clear H
              have p177 : 0 ≤ (x3_1 : Int) := of_decide_eq_true (by first | (with_reducible assumption) | assumption)
              have q177 : x3_1 < (l0.length : Int) := of_decide_eq_true (by first | (with_reducible assumption) | assumption)
              obtain ⟨ad177, A177_1, c177_1, A177_2, c177_2, e177, hx177_0, hx177_1, hx177_2, hl177_1, hi177_1, hl177_2, hi177_2⟩ := at_T36 HR0.out x3_1 p177 q177
              cases e177
              have HR177_1 := Aside0.mk hi177_1
              have HC177_1 := Aside0.mk hl177_1
              clear hi177_1 hl177_1
              have HR177_2 := Aside0.mk hi177_2
              have HC177_2 := Aside0.mk hl177_2
              clear hi177_2 hl177_2
              replace p177 := eq_true p177
              replace q177 := eq_true q177
              have p178 : 0 ≤ (x3_1 : Int) := of_decide_eq_true (by first | (with_reducible assumption) | assumption)
              have q178 : x3_1 < (l0.length : Int) := of_decide_eq_true (by first | (with_reducible assumption) | assumption)
              obtain ⟨ad178, A178_1, c178_1, A178_2, c178_2, e178, hx178_0, hx178_1, hx178_2, hl178_1, hi178_1, hl178_2, hi178_2⟩ := at_T36 HR0.out x3_1 p178 q178
              obtain rfl : ad177 = ad178 := (by injection e178)
              have HR178_1 := Aside0.mk hi178_1
              have HC178_1 := Aside0.mk hl178_1
              clear hi178_1 hl178_1
              have HR178_2 := Aside0.mk hi178_2
              have HC178_2 := Aside0.mk hl178_2
              clear hi178_2 hl178_2
              replace p178 := eq_true p178
              replace q178 := eq_true q178
              have ea_ := Option.some.inj (hx177_1.symm.trans hx178_1)
              injection ea_ with ea_ en_ ec_
              subst ea_
              subst ec_
              clear en_
              have ea_ := Option.some.inj (hx177_2.symm.trans hx178_2)
              injection ea_ with ea_ en_ ec_
              subst ea_
              subst ec_
              clear en_
              go_wp2
              go_roundg k1
              case measure => have := HK1.out; omega
              case rel => exact ⟨(wrap64 (x3_1 + 1)), (by first | rfl | (simp; done) | (simp [*]; done)), H', ⟨by have := HK1.out; omega⟩, by repeat (first | exact Drawn0.refl _ | apply Drawn0.step)⟩
        · rw [if_neg c3] at H
          exact absurd H (by simp)
      · rw [if_neg c2] at H
        have c2b0 : decide (x3_1 < (l0.length : Int)) = false := decide_eq_false c2
        clear c2
        obtain rfl := Option.some.inj H
        go_wp2
        go_ret
        exact ⟨by first | rfl | (simp; done) | (simp [*]; done), by repeat (first | exact Drawn0.refl _ | apply Drawn0.step)⟩

/-! ### fullerref02_product: function 48 -/
def fullerref02_product.l0 : Nat → List Int → Int → Int → Option (Int)
  | 0, _, _, _ => none
  | k + 1, x0, x3, x4 => if x4 < (x0.length : Int) then (if 0 ≤ x4 then (fullerref02_product.l0 k x0 (wrap64 (x3 * (rd x0 x4))) (wrap64 (x4 + 1))) else (none)) else (some x3)
def fullerref02_product.f (k : Nat) (l0 : List Int) : Option (Int) := fullerref02_product.l0 k l0 1 0
theorem fullerref02_product.mono_l : ∀ k, (∀ y0 y1 y2, LeO (fullerref02_product.l0 k y0 y1 y2) (fullerref02_product.l0 (k + 1) y0 y1 y2))
  | 0 => fun _ _ _ r h => by simp [fullerref02_product.l0] at h
  | k + 1 => by
    have ih0 := fullerref02_product.mono_l k
    · intro y0 y1 y2
      unfold fullerref02_product.l0
      repeat' first
      | (with_reducible exact ih0 _ _ _)
      | (with_reducible exact LeO.refl _)
      | (with_reducible exact LeO.none _)
      | (with_reducible refine LeO.ite ?_ ?_)
      | (with_reducible refine LeO.bind ?_ (fun _ => ?_))
      | exact ih0 _ _ _
      | exact LeO.none _
      | refine LeO.ite ?_ ?_
      | refine LeO.bind ?_ (fun _ => ?_)
theorem fullerref02_product.mono : ∀ a0 k, LeO (fullerref02_product.f k a0) (fullerref02_product.f (k + 1) a0) := by
  intro a0 k
  have ih0 := fullerref02_product.mono_l k
  unfold fullerref02_product.f
  repeat' first
      | (with_reducible exact ih0 _ _ _)
      | (with_reducible exact LeO.refl _)
      | (with_reducible exact LeO.none _)
      | (with_reducible refine LeO.ite ?_ ?_)
      | (with_reducible refine LeO.bind ?_ (fun _ => ?_))
      | exact ih0 _ _ _
      | exact LeO.none _
      | refine LeO.ite ?_ ?_
      | refine LeO.bind ?_ (fun _ => ?_)
set_option maxHeartbeats 8000000 in
set_option maxRecDepth 100000 in
theorem fullerref02_product.calls (k : Nat) (A0 : Option Addr) (c0 : Nat) (l0 : List Int) (r : Int) (w : World) (hr0 : Kd.C (Kd.int .i64) w A0 l0.length l0) (hc0 : l0.length ≤ c0) (h : fullerref02_product.f k l0 = some r) :
    Calls Try.prog 48 #[.slice A0 l0.length c0] w fun e w' => e = .returned (.int .i64 r) ∧ Drawn0 w w' := by
  have HR0 := Aside0.mk hr0
  have HC0 := Aside0.mk hc0
  clear hr0 hc0
  have H : (fullerref02_product.l0 k l0 1 0) = some r := h
  clear h
  have H' := Aside0.mk H
  clear H
  go_enter Try.func48, Try.ntmps48
  go_wp2
  go_loopg [3, 4] k (fun kq v3 v4 w' => ∃ (x3_1 : Int) (x4_1 : Int), v3 = .int .i64 x3_1 ∧ v4 = .int .i64 x4_1 ∧ Aside0 (fullerref02_product.l0 kq l0 x3_1 x4_1 = some r) ∧ Aside0 (kq ≤ k) ∧ Drawn0 w w')
  case atStart => exact ⟨(1), (0), (by first | rfl | (simp; done) | (simp [*]; done)), (by first | rfl | (simp; done) | (simp [*]; done)), H', ⟨Nat.le_refl _⟩, by repeat (first | exact Drawn0.refl _ | apply Drawn0.step)⟩
  case round =>
    clear H'
    obtain ⟨x3_1, x4_1, rfl, rfl, HA, HK1, ⟨m1, rfl⟩⟩ := hrel
    cases gk with
    | zero => exact absurd HA.out (by simp [fullerref02_product.l0])
    | succ k1 =>
      have H := HA.out
      clear HA
      simp only [fullerref02_product.l0] at H
      by_cases c2 : x4_1 < (l0.length : Int)
      · rw [if_pos c2] at H
        have c2b0 : decide (x4_1 < (l0.length : Int)) = true := decide_eq_true c2
        clear c2
        by_cases c3 : 0 ≤ x4_1
        · rw [if_pos c3] at H
          have c3b0 : decide (0 ≤ x4_1) = true := decide_eq_true c3
          clear c3
          have H' := Aside0.mk H
          clear H
          have p179 : 0 ≤ (x4_1 : Int) := of_decide_eq_true (by first | (with_reducible assumption) | assumption)
          have q179 : x4_1 < (l0.length : Int) := of_decide_eq_true (by first | (with_reducible assumption) | assumption)
          obtain ⟨ad179, e179, hx179_0⟩ := Kd.at_int HR0.out x4_1 p179 q179
          cases e179
          replace p179 := eq_true p179
          replace q179 := eq_true q179
          go_wp2
          go_roundg k1
          case measure => have := HK1.out; omega
          case rel => exact ⟨(wrap64 (x3_1 * (rd l0 x4_1))), (wrap64 (x4_1 + 1)), (by first | rfl | (simp; done) | (simp [*]; done)), (by first | rfl | (simp; done) | (simp [*]; done)), H', ⟨by have := HK1.out; omega⟩, by repeat (first | exact Drawn0.refl _ | apply Drawn0.step)⟩
        · rw [if_neg c3] at H
          exact absurd H (by simp)
      · rw [if_neg c2] at H
        have c2b0 : decide (x4_1 < (l0.length : Int)) = false := decide_eq_false c2
        clear c2
        obtain rfl := Option.some.inj H
        go_wp2
        go_ret
        exact ⟨by first | rfl | (simp; done) | (simp [*]; done), by repeat (first | exact Drawn0.refl _ | apply Drawn0.step)⟩

end Go.Proofs.Ytchmfdaebohplaa.A
