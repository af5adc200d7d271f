/- Lean functions that answer as the Go functions do, and the proofs that they do; no conditions. Written by this session's own driver: a scratch copy of the kit's print with the session's additions (wip/xprint). -/
import Derived.Test.YtjcgadfmhfhbgaaAx0
import Derived.Test.YtjcgadfmhfhbgaaAx4
import Derived.Test.YtjcgadfmhfhbgaaAx7
import Derived.Test.YtjcgadfmhfhbgaaAx10
import Derived.Test.YtjcgadfmhfhbgaaAx14
import Derived.Test.YtjcgadfmhfhbgaaAx15
namespace Go.Proofs.Ytjcgadfmhfhbgaa.A
open Go.RowKit Go.Proofs.YtjcgadfmhfhbgaaW.PrintWords Go.Proofs.YtjcgadfmhfhbgaaW.PrintLast Go.Proofs.YtjcgadfmhfhbgaaW.PrintMore
attribute [local go_sem] max2_int min2_int max_two min_two max_three min_three max_four min_four   -- for this text's walks alone
set_option linter.unusedVariables false
set_option linter.unusedSimpArgs false

-- NOT PRINTED: function 13 (fullerref23_Read)

-- NOT PRINTED: function 3 (fullerlaw23_ScriptTells)

/-! ### fullerlaw23_ScriptBack: function 4 -/
mutual
def fullerlaw23_ScriptBack.j0 : Nat → List (S30) → List Int → Bool → Bool → Option (Bool)
 | 0, _, _, _, _ => none
 | k + 1, x0, x1, x5, x25 => if x25 = true then (some x5) else ((script_Write.f k x0).bind fun bt601 => ((script_Read.f k bt601.1).bind fun bt605 => ((script_Read.f k x1).bind fun bt609 => ((script_Write.f k bt609.1).bind fun bt613 => (fullerlaw23_ScriptBack.l0 k x0 x1 x5 bt601.1 bt601.2 bt605.1 bt605.2 bt609.1 bt609.2 bt613.1 bt613.2 true 0)))))
def fullerlaw23_ScriptBack.l0 : Nat → List (S30) → List Int → Bool → List Int → Int → List (S30) → Int → List (S30) → Int → List Int → Int → Bool → Int → Option (Bool)
 | 0, _, _, _, _, _, _, _, _, _, _, _, _, _ => none
 | k + 1, x0, x1, x5, x6, x7, x8, x9, x10, x11, x12, x13, x14, x15 => if x15 < (x0.length : Int) then (if x14 = true then (if 0 ≤ x15 then ((script_Check.f k ((rd_T30 x0 x15).f0) ((rd_T30 x0 x15).f1) ((rd_T30 x0 x15).f2) ((rd_T30 x0 x15).f3.f0) ((rd_T30 x0 x15).f3.f1) ((rd_T30 x0 x15).f4.f0) ((rd_T30 x0 x15).f4.f1) ((rd_T30 x0 x15).f4.f2) ((rd_T30 x0 x15).f4.f3) ((rd_T30 x0 x15).f5) ((rd_T30 x0 x15).f6)).bind fun t618 => (fullerlaw23_ScriptBack.l0 k x0 x1 x5 x6 x7 x8 x9 x10 x11 x12 x13 t618 (wrap64 (x15 + 1)))) else (none)) else (fullerlaw23_ScriptBack.l0 k x0 x1 x5 x6 x7 x8 x9 x10 x11 x12 x13 false (wrap64 (x15 + 1)))) else (if x7 = 0 then (if x14 = true then (if x9 = 0 then ((fullerref23_Same.f k x8 x0).bind fun t619 => (if x5 = true then (if t619 = true then (if x11 = 0 then (if x13 = 0 then (some ((strOfNums x12).toList == (strOfNums x1).toList)) else (some false)) else (if (x10.length : Int) = 0 then (some true) else (some false))) else (some false)) else (some false))) else (if x5 = true then (some false) else (some false))) else (if x5 = true then (some false) else (some false))) else (if x14 = true then (if x5 = true then (some false) else (some false)) else (if (x6.length : Int) = 0 then (if x5 = true then (if x11 = 0 then (if x13 = 0 then (some ((strOfNums x12).toList == (strOfNums x1).toList)) else (some false)) else (if (x10.length : Int) = 0 then (some true) else (some false))) else (some false)) else (if x5 = true then (some false) else (some false)))))
end
def fullerlaw23_ScriptBack.f (k : Nat) (l0 : List (S30)) (l1 : List Int) : Option (Bool) := (fullerlaw23_awake.f k).bind fun t599 => ((fullerref21_Cmds.f k l0 300).bind fun t600 => (if t600 = true then (fullerlaw23_ScriptBack.j0 k l0 l1 t599 (decide ((l1.length : Int) > 9000))) else (fullerlaw23_ScriptBack.j0 k l0 l1 t599 true)))
theorem fullerlaw23_ScriptBack.mono_l : ∀ k, (∀ y0 y1 y2 y3, LeO (fullerlaw23_ScriptBack.j0 k y0 y1 y2 y3) (fullerlaw23_ScriptBack.j0 (k + 1) y0 y1 y2 y3)) ∧ (∀ y0 y1 y2 y3 y4 y5 y6 y7 y8 y9 y10 y11 y12, LeO (fullerlaw23_ScriptBack.l0 k y0 y1 y2 y3 y4 y5 y6 y7 y8 y9 y10 y11 y12) (fullerlaw23_ScriptBack.l0 (k + 1) y0 y1 y2 y3 y4 y5 y6 y7 y8 y9 y10 y11 y12))
 | 0 => ⟨fun _ _ _ _ r h => by simp [fullerlaw23_ScriptBack.j0] at h, fun _ _ _ _ _ _ _ _ _ _ _ _ _ r h => by simp [fullerlaw23_ScriptBack.l0] at h⟩
 | k + 1 => by
  obtain ⟨ih0, ih1⟩ := fullerlaw23_ScriptBack.mono_l k
  refine ⟨?_, ?_⟩
  ·intro y0 y1 y2 y3
   unfold fullerlaw23_ScriptBack.j0
   repeat' first
   | (with_reducible exact ih0 _ _ _ _)
   | (with_reducible exact ih1 _ _ _ _ _ _ _ _ _ _ _ _ _)
   | (with_reducible exact fullerlaw23_awake.mono _)
   | (with_reducible exact fullerref21_Cmds.mono _ _ _)
   | (with_reducible exact fullerref23_Same.mono _ _ _)
   | (with_reducible exact script_Check.mono _ _ _ _ _ _ _ _ _ _ _ _)
   | (with_reducible exact script_Read.mono _ _)
   | (with_reducible exact script_Write.mono _ _)
   | (with_reducible exact LeO.refl _)
   | (with_reducible exact LeO.none _)
   | (with_reducible refine LeO.ite ?_ ?_)
   | (with_reducible refine LeO.bind ?_ (fun _ => ?_))
   | exact ih0 _ _ _ _
   | exact ih1 _ _ _ _ _ _ _ _ _ _ _ _ _
   | exact fullerlaw23_awake.mono _
   | exact fullerref21_Cmds.mono _ _ _
   | exact fullerref23_Same.mono _ _ _
   | exact script_Check.mono _ _ _ _ _ _ _ _ _ _ _ _
   | exact script_Read.mono _ _
   | exact script_Write.mono _ _
   | exact LeO.none _
   | refine LeO.ite ?_ ?_
   | refine LeO.bind ?_ (fun _ => ?_)
  ·intro y0 y1 y2 y3 y4 y5 y6 y7 y8 y9 y10 y11 y12
   unfold fullerlaw23_ScriptBack.l0
   repeat' first
   | (with_reducible exact ih0 _ _ _ _)
   | (with_reducible exact ih1 _ _ _ _ _ _ _ _ _ _ _ _ _)
   | (with_reducible exact fullerlaw23_awake.mono _)
   | (with_reducible exact fullerref21_Cmds.mono _ _ _)
   | (with_reducible exact fullerref23_Same.mono _ _ _)
   | (with_reducible exact script_Check.mono _ _ _ _ _ _ _ _ _ _ _ _)
   | (with_reducible exact script_Read.mono _ _)
   | (with_reducible exact script_Write.mono _ _)
   | (with_reducible exact LeO.refl _)
   | (with_reducible exact LeO.none _)
   | (with_reducible refine LeO.ite ?_ ?_)
   | (with_reducible refine LeO.bind ?_ (fun _ => ?_))
   | exact ih0 _ _ _ _
   | exact ih1 _ _ _ _ _ _ _ _ _ _ _ _ _
   | exact fullerlaw23_awake.mono _
   | exact fullerref21_Cmds.mono _ _ _
   | exact fullerref23_Same.mono _ _ _
   | exact script_Check.mono _ _ _ _ _ _ _ _ _ _ _ _
   | exact script_Read.mono _ _
   | exact script_Write.mono _ _
   | exact LeO.none _
   | refine LeO.ite ?_ ?_
   | refine LeO.bind ?_ (fun _ => ?_)
theorem fullerlaw23_ScriptBack.mono : ∀ a0 a1 k, LeO (fullerlaw23_ScriptBack.f k a0 a1) (fullerlaw23_ScriptBack.f (k + 1) a0 a1) := by
 intro a0 a1 k
 obtain ⟨ih0, ih1⟩ := fullerlaw23_ScriptBack.mono_l k
 unfold fullerlaw23_ScriptBack.f
 repeat' first
   | (with_reducible exact ih0 _ _ _ _)
   | (with_reducible exact ih1 _ _ _ _ _ _ _ _ _ _ _ _ _)
   | (with_reducible exact fullerlaw23_awake.mono _)
   | (with_reducible exact fullerref21_Cmds.mono _ _ _)
   | (with_reducible exact fullerref23_Same.mono _ _ _)
   | (with_reducible exact script_Check.mono _ _ _ _ _ _ _ _ _ _ _ _)
   | (with_reducible exact script_Read.mono _ _)
   | (with_reducible exact script_Write.mono _ _)
   | (with_reducible exact LeO.refl _)
   | (with_reducible exact LeO.none _)
   | (with_reducible refine LeO.ite ?_ ?_)
   | (with_reducible refine LeO.bind ?_ (fun _ => ?_))
   | exact ih0 _ _ _ _
   | exact ih1 _ _ _ _ _ _ _ _ _ _ _ _ _
   | exact fullerlaw23_awake.mono _
   | exact fullerref21_Cmds.mono _ _ _
   | exact fullerref23_Same.mono _ _ _
   | exact script_Check.mono _ _ _ _ _ _ _ _ _ _ _ _
   | exact script_Read.mono _ _
   | exact script_Write.mono _ _
   | exact LeO.none _
   | refine LeO.ite ?_ ?_
   | refine LeO.bind ?_ (fun _ => ?_)
set_option maxHeartbeats 8000000 in
set_option maxRecDepth 100000 in
theorem fullerlaw23_ScriptBack.calls (k : Nat) (A0 : Option Addr) (c0 : Nat) (l0 : List (S30)) (A1 : Option Addr) (c1 : Nat) (l1 : List Int) (r : Bool) (w : World) (hr0 : Kd.C k30 w A0 l0.length l0) (hc0 : l0.length ≤ c0) (hr1 : Kd.C (Kd.int .u8) w A1 l1.length l1) (hc1 : l1.length ≤ c1) (h : fullerlaw23_ScriptBack.f k l0 l1 = some r) :
  Calls Try.prog 4 #[.slice A0 l0.length c0, .slice A1 l1.length c1] w fun e w' => e = .returned (.bool r) ∧ Below w.heap.size w w' := by
 have hu30 := Try.underlying30
 have HR0 := Aside0.mk hr0
 have HC0 := Aside0.mk hc0
 clear hr0 hc0
 have HR1 := Aside0.mk hr1
 have HC1 := Aside0.mk hc1
 clear hr1 hc1
 have HB := Aside0.mk (Below.refl w.heap.size w)
 have H : ((fullerlaw23_awake.f k).bind fun t599 => ((fullerref21_Cmds.f k l0 300).bind fun t600 => (if t600 = true then (fullerlaw23_ScriptBack.j0 k l0 l1 t599 (decide ((l1.length : Int) > 9000))) else (fullerlaw23_ScriptBack.j0 k l0 l1 t599 true)))) = some r := h
 clear h
 replace H := Option.bind_eq_some_iff.mp H
 obtain ⟨t599, A30, H⟩ := H
 replace H : ((fullerref21_Cmds.f k l0 300).bind fun t600 => (if t600 = true then (fullerlaw23_ScriptBack.j0 k l0 l1 t599 (decide ((l1.length : Int) > 9000))) else (fullerlaw23_ScriptBack.j0 k l0 l1 t599 true))) = some r := H
 have A3 := Aside0.mk A30
 clear A30
 have HC4 := Aside0.mk H
 clear H
 go_enter Try.func4, Try.ntmps4
 go_upto_region 2 with (first | ((with_reducible refine gate_callee (f := 8) rfl ?_); refine gL_ (some 17) Try.func8 #[] ?_; (with_reducible refine (fullerlaw23_awake.calls k  t599 _ A3.out).mono ?_); rintro e w5 ⟨rfl, hb⟩; refine ⟨_, rfl, ?_⟩; replace HB := Aside0.mk (below_step (bq0_ HB.out) hb); (try clear hb)))
 (try simp only [Act.put, sA_, sB_, sC_])
 go_cut [25] (fun v25 wc => ∃ (kq : Nat) (x25_3 : Bool), v25 = .bool x25_3 ∧ Aside0 (fullerlaw23_ScriptBack.j0 kq l0 l1 t599 x25_3 = some r) ∧ Aside0 (kq ≤ k) ∧ Aside0 (Below w.heap.size w wc))
 case first =>
  have H := HC4.out
  clear HC4
  replace H := Option.bind_eq_some_iff.mp H
  obtain ⟨t600, A60, H⟩ := H
  replace H : (if t600 = true then (fullerlaw23_ScriptBack.j0 k l0 l1 t599 (decide ((l1.length : Int) > 9000))) else (fullerlaw23_ScriptBack.j0 k l0 l1 t599 true)) = some r := H
  have A6 := Aside0.mk A60
  clear A60
  by_cases c7 : t600 = true
  ·subst c7
   have H1 : (fullerlaw23_ScriptBack.j0 k l0 l1 t599 (decide ((l1.length : Int) > 9000))) = some r := by rw [if_pos rfl] at H; exact H
   clear H
   have H := H1
   clear H1
   have H' := Aside0.mk H
   clear H
   go_wp2_with (first | ((with_reducible refine gate_callee (f := 9) rfl ?_); refine gL_ (some 19) Try.func9 #[.slice A0 l0.length c0, .int .i64 300] ?_; (with_reducible refine (fullerref21_Cmds.calls k _ _ l0 300 true _ ?side1 ?side2 A6.out).mono ?_); (case side1 => exact mvC_ ((Kd.C_below HR0.out HB.out))); (case side2 => exact HC0.out); rintro e w8 ⟨rfl, hb⟩; refine ⟨_, rfl, ?_⟩; replace HB := Aside0.mk (below_step (bq0_ HB.out) hb); (try clear hb)))
   go_meet
   case rel => exact ⟨_, (decide ((l1.length : Int) > 9000)), (by first | rfl | (simp; done) | (simp [*]; done)), H', ⟨by first | omega | exact Nat.le_refl _⟩, ⟨bq0_ HB.out⟩⟩
  ·replace c7 := Bool.eq_false_iff.mpr c7
   subst c7
   have H1 : (fullerlaw23_ScriptBack.j0 k l0 l1 t599 true) = some r := by rw [if_neg (show ¬ (false = true) by decide)] at H; exact H
   clear H
   have H := H1
   clear H1
   have H' := Aside0.mk H
   clear H
   go_wp2_with (first | ((with_reducible refine gate_callee (f := 9) rfl ?_); refine gL_ (some 19) Try.func9 #[.slice A0 l0.length c0, .int .i64 300] ?_; (with_reducible refine (fullerref21_Cmds.calls k _ _ l0 300 false _ ?side1 ?side2 A6.out).mono ?_); (case side1 => exact mvC_ ((Kd.C_below HR0.out HB.out))); (case side2 => exact HC0.out); rintro e w9 ⟨rfl, hb⟩; refine ⟨_, rfl, ?_⟩; replace HB := Aside0.mk (below_step (bq0_ HB.out) hb); (try clear hb)))
   go_meet
   case rel => exact ⟨_, (true), (by first | rfl | (simp; done) | (simp [*]; done)), H', ⟨by first | omega | exact Nat.le_refl _⟩, ⟨bq0_ HB.out⟩⟩
 case rest =>
  clear HC4
  try clear c1
  try clear p2
  try clear c4
  try clear c7
  try clear c8
  try clear c9
  obtain ⟨kq, x25_3, rfl, HA, HJ3, HB⟩ := hcut
  cases kq with
  | zero => exact absurd HA.out (by simp [fullerlaw23_ScriptBack.j0])
  | succ kj3 =>
   have H := HA.out
   clear HA
   simp only [fullerlaw23_ScriptBack.j0] at H
   by_cases c10 : x25_3 = true
   ·subst c10
    have H1 : (some t599) = some r := by rw [if_pos rfl] at H; exact H
    clear H
    have H := H1
    clear H1
    obtain rfl := Option.some.inj H
    go_wp2
    go_ret
    exact ⟨by first | rfl | (simp <;> rfl) | (simp [*] <;> rfl), bq0_ HB.out⟩
   ·replace c10 := Bool.eq_false_iff.mpr c10
    subst c10
    have H1 : ((script_Write.f kj3 l0).bind fun bt601 => ((script_Read.f kj3 bt601.1).bind fun bt605 => ((script_Read.f kj3 l1).bind fun bt609 => ((script_Write.f kj3 bt609.1).bind fun bt613 => (fullerlaw23_ScriptBack.l0 kj3 l0 l1 t599 bt601.1 bt601.2 bt605.1 bt605.2 bt609.1 bt609.2 bt613.1 bt613.2 true 0))))) = some r := by rw [if_neg (show ¬ (false = true) by decide)] at H; exact H
    clear H
    have H := H1
    clear H1
    replace H := Option.bind_eq_some_iff.mp H
    obtain ⟨⟨t601, t602⟩, A110, H⟩ := H
    replace H : ((script_Read.f kj3 t601).bind fun bt605 => ((script_Read.f kj3 l1).bind fun bt609 => ((script_Write.f kj3 bt609.1).bind fun bt613 => (fullerlaw23_ScriptBack.l0 kj3 l0 l1 t599 t601 t602 bt605.1 bt605.2 bt609.1 bt609.2 bt613.1 bt613.2 true 0)))) = some r := H
    have A11 := Aside0.mk A110
    clear A110
    replace H := Option.bind_eq_some_iff.mp H
    obtain ⟨⟨t605, t606⟩, A120, H⟩ := H
    replace H : ((script_Read.f kj3 l1).bind fun bt609 => ((script_Write.f kj3 bt609.1).bind fun bt613 => (fullerlaw23_ScriptBack.l0 kj3 l0 l1 t599 t601 t602 t605 t606 bt609.1 bt609.2 bt613.1 bt613.2 true 0))) = some r := H
    have A12 := Aside0.mk A120
    clear A120
    replace H := Option.bind_eq_some_iff.mp H
    obtain ⟨⟨t609, t610⟩, A130, H⟩ := H
    replace H : ((script_Write.f kj3 t609).bind fun bt613 => (fullerlaw23_ScriptBack.l0 kj3 l0 l1 t599 t601 t602 t605 t606 t609 t610 bt613.1 bt613.2 true 0)) = some r := H
    have A13 := Aside0.mk A130
    clear A130
    replace H := Option.bind_eq_some_iff.mp H
    obtain ⟨⟨t613, t614⟩, A140, H⟩ := H
    replace H : (fullerlaw23_ScriptBack.l0 kj3 l0 l1 t599 t601 t602 t605 t606 t609 t610 t613 t614 true 0) = some r := H
    have A14 := Aside0.mk A140
    clear A140
    have H' := Aside0.mk H
    clear H
    go_wp2_with (first | ((with_reducible refine gate_callee (f := 10) rfl ?_); refine gL_ (some 29) Try.func10 #[.slice A0 l0.length c0] ?_; (with_reducible refine (script_Write.calls kj3 _ _ l0 t601 t602 _ ?side1 ?side2 A11.out).mono ?_); (case side1 => exact mvC_ ((Kd.C_below HR0.out HB.out))); (case side2 => exact HC0.out); rintro e w15 ⟨v603, rfl, ho0, hb⟩; refine ⟨_, rfl, ?_⟩; have HO604 := Aside0.mk (Kd.R_lower ho0 (below_size (bq0_ HB.out))); replace HB := Aside0.mk (below_step (bq0_ HB.out) hb); (try clear hb); (try clear ho0); obtain ⟨Ao16, co16, eo16⟩ := Kd.R_slice HO604.out; subst eo16) | ((with_reducible refine gate_callee (f := 12) rfl ?_); refine gL_ (some 34) Try.func12 #[.slice Ao16 t601.length co16] ?_; (with_reducible refine (script_Read.calls kj3 _ _ t601 t605 t606 _ ?side1 ?side2 A12.out).mono ?_); (case side1 => exact mvC_ ((Kd.R_reads' HO604.out).2.2)); (case side2 => exact (Kd.R_reads' HO604.out).2.1); rintro e w17 ⟨v607, rfl, ho0, hb⟩; refine ⟨_, rfl, ?_⟩; have HO608 := Aside0.mk (Kd.R_lower ho0 (below_size (bq0_ HB.out))); replace HO604 := mbR_ HO604.out hb; replace HB := Aside0.mk (below_step (bq0_ HB.out) hb); (try clear hb); (try clear ho0)) | ((with_reducible refine gate_callee (f := 12) rfl ?_); refine gL_ (some 39) Try.func12 #[.slice A1 l1.length c1] ?_; (with_reducible refine (script_Read.calls kj3 _ _ l1 t609 t610 _ ?side1 ?side2 A13.out).mono ?_); (case side1 => exact mvC_ ((Kd.C_below HR1.out HB.out))); (case side2 => exact HC1.out); rintro e w18 ⟨v611, rfl, ho0, hb⟩; refine ⟨_, rfl, ?_⟩; have HO612 := Aside0.mk (Kd.R_lower ho0 (below_size (bq0_ HB.out))); replace HO604 := mbR_ HO604.out hb; replace HO608 := mbR_ HO608.out hb; replace HB := Aside0.mk (below_step (bq0_ HB.out) hb); (try clear hb); (try clear ho0); obtain ⟨Ao19, co19, eo19⟩ := Kd.R_slice HO612.out; subst eo19) | ((with_reducible refine gate_callee (f := 10) rfl ?_); refine gL_ (some 44) Try.func10 #[.slice Ao19 t609.length co19] ?_; (with_reducible refine (script_Write.calls kj3 _ _ t609 t613 t614 _ ?side1 ?side2 A14.out).mono ?_); (case side1 => exact mvC_ ((Kd.R_reads' HO612.out).2.2)); (case side2 => exact (Kd.R_reads' HO612.out).2.1); rintro e w20 ⟨v615, rfl, ho0, hb⟩; refine ⟨_, rfl, ?_⟩; have HO616 := Aside0.mk (Kd.R_lower ho0 (below_size (bq0_ HB.out))); replace HO604 := mbR_ HO604.out hb; replace HO608 := mbR_ HO608.out hb; replace HO612 := mbR_ HO612.out hb; replace HB := Aside0.mk (below_step (bq0_ HB.out) hb); (try clear hb); (try clear ho0)))
    go_loopg [14, 15] kj3 (fun kq v14 v15 w' => ∃ (x14_2 : Bool) (x15_2 : Int), v14 = .bool x14_2 ∧ v15 = .int .i64 x15_2 ∧ Aside0 (fullerlaw23_ScriptBack.l0 kq l0 l1 t599 t601 t602 t605 t606 t609 t610 t613 t614 x14_2 x15_2 = some r) ∧ Aside0 (kq ≤ kj3) ∧ Aside0 (Kd.R (Kd.int .u8) 5 w' w.heap.size (fun _ => True) (.slice Ao16 t601.length co16) t601) ∧ Aside0 (Kd.R k30 30 w' w.heap.size (fun _ => True) v607 t605) ∧ Aside0 (Kd.R k30 30 w' w.heap.size (fun _ => True) (.slice Ao19 t609.length co19) t609) ∧ Aside0 (Kd.R (Kd.int .u8) 5 w' w.heap.size (fun _ => True) v615 t613) ∧ Aside0 (Below w.heap.size w w'))
    case atStart => exact ⟨(true), (0), (by first | rfl | (simp; done) | (simp [*]; done)), (by first | rfl | (simp; done) | (simp [*]; done)), H', ⟨Nat.le_refl _⟩, ⟨mvR_ HO604.out⟩, ⟨mvR_ HO608.out⟩, ⟨mvR_ HO612.out⟩, ⟨mvR_ HO616.out⟩, ⟨bq0_ HB.out⟩⟩
    case round =>
     clear H'
     try clear c1
     try clear p2
     try clear c4
     try clear c7
     try clear c8
     try clear c9
     try clear c10
     try clear c12
     try clear p2
     obtain ⟨x14_2, x15_2, rfl, rfl, HA, HK2, HO_6, HO_8, HO_10, HO_12, HB⟩ := hrel
     cases gk with
     | zero => exact absurd HA.out (by simp [fullerlaw23_ScriptBack.l0])
     | succ k2 =>
      have H := HA.out
      clear HA
      simp only [fullerlaw23_ScriptBack.l0] at H
      by_cases c21 : x15_2 < (l0.length : Int)
      ·rw [if_pos c21] at H
       have c21b0 : decide (x15_2 < (l0.length : Int)) = true := decide_eq_true c21
       clear c21
       by_cases c22 : x14_2 = true
       ·subst c22
        have H1 : (if 0 ≤ x15_2 then ((script_Check.f k2 ((rd_T30 l0 x15_2).f0) ((rd_T30 l0 x15_2).f1) ((rd_T30 l0 x15_2).f2) ((rd_T30 l0 x15_2).f3.f0) ((rd_T30 l0 x15_2).f3.f1) ((rd_T30 l0 x15_2).f4.f0) ((rd_T30 l0 x15_2).f4.f1) ((rd_T30 l0 x15_2).f4.f2) ((rd_T30 l0 x15_2).f4.f3) ((rd_T30 l0 x15_2).f5) ((rd_T30 l0 x15_2).f6)).bind fun t618 => (fullerlaw23_ScriptBack.l0 k2 l0 l1 t599 t601 t602 t605 t606 t609 t610 t613 t614 t618 (wrap64 (x15_2 + 1)))) else (none)) = some r := by rw [if_pos rfl] at H; exact H
        clear H
        have H := H1
        clear H1
        by_cases c23 : 0 ≤ x15_2
        ·rw [if_pos c23] at H
         have c23b0 : decide (0 ≤ x15_2) = true := decide_eq_true c23
         clear c23
         replace H := Option.bind_eq_some_iff.mp H
         obtain ⟨t618, A240, H⟩ := H
         replace H : (fullerlaw23_ScriptBack.l0 k2 l0 l1 t599 t601 t602 t605 t606 t609 t610 t613 t614 t618 (wrap64 (x15_2 + 1))) = some r := H
         have A24 := Aside0.mk A240
         clear A240
         have H' := Aside0.mk H
         clear H
         have p617 : 0 ≤ (x15_2 : Int) := od_
         have q617 : x15_2 < (l0.length : Int) := od_
         obtain ⟨ad617, A617_2, c617_2, A617_3, c617_3, A617_4, c617_4, e617, hx617_0, hx617_1, hx617_2, hx617_3, hx617_4, hx617_5, hx617_6, hx617_7, hx617_8, hx617_9, hx617_10, hl617_2, hi617_2, hl617_3, hi617_3, hl617_4, hi617_4⟩ := at_T30 HR0.out x15_2 p617 q617
         cases e617
         replace hx617_0 := (HB.out.cell (World.block_lt_of_cell? w _ hx617_0)).trans hx617_0
         replace hx617_1 := (HB.out.cell (World.block_lt_of_cell? w _ hx617_1)).trans hx617_1
         replace hx617_2 := (HB.out.cell (World.block_lt_of_cell? w _ hx617_2)).trans hx617_2
         replace hx617_3 := (HB.out.cell (World.block_lt_of_cell? w _ hx617_3)).trans hx617_3
         replace hx617_4 := (HB.out.cell (World.block_lt_of_cell? w _ hx617_4)).trans hx617_4
         replace hx617_5 := (HB.out.cell (World.block_lt_of_cell? w _ hx617_5)).trans hx617_5
         replace hx617_6 := (HB.out.cell (World.block_lt_of_cell? w _ hx617_6)).trans hx617_6
         replace hx617_7 := (HB.out.cell (World.block_lt_of_cell? w _ hx617_7)).trans hx617_7
         replace hx617_8 := (HB.out.cell (World.block_lt_of_cell? w _ hx617_8)).trans hx617_8
         replace hx617_9 := (HB.out.cell (World.block_lt_of_cell? w _ hx617_9)).trans hx617_9
         replace hx617_10 := (HB.out.cell (World.block_lt_of_cell? w _ hx617_10)).trans hx617_10
         have HR617_2 := Aside0.mk hi617_2
         have HC617_2 := Aside0.mk hl617_2
         clear hi617_2 hl617_2
         have HR617_3 := Aside0.mk hi617_3
         have HC617_3 := Aside0.mk hl617_3
         clear hi617_3 hl617_3
         have HR617_4 := Aside0.mk hi617_4
         have HC617_4 := Aside0.mk hl617_4
         clear hi617_4 hl617_4
         replace p617 := eq_true p617
         replace q617 := eq_true q617
         go_wp2_with (first | (go_at_call 15; (with_reducible refine (script_Check.calls k2 ((rd_T30 l0 x15_2).f0) ((rd_T30 l0 x15_2).f1) _ _ ((rd_T30 l0 x15_2).f2) _ _ ((rd_T30 l0 x15_2).f3.f0) _ _ ((rd_T30 l0 x15_2).f3.f1) ((rd_T30 l0 x15_2).f4.f0) ((rd_T30 l0 x15_2).f4.f1) ((rd_T30 l0 x15_2).f4.f2) ((rd_T30 l0 x15_2).f4.f3) ((rd_T30 l0 x15_2).f5) ((rd_T30 l0 x15_2).f6) t618 _ ?side1 ?side2 ?side3 ?side4 ?side5 ?side6 A24.out).mono ?_); (case side1 => exact mvC_ ((Kd.C_below HR617_2.out HB.out))); (case side2 => exact HC617_2.out); (case side3 => exact mvC_ ((Kd.C_below HR617_3.out HB.out))); (case side4 => exact HC617_3.out); (case side5 => exact mvC_ ((Kd.C_below HR617_4.out HB.out))); (case side6 => exact HC617_4.out); rintro e w25 ⟨rfl, hb⟩; replace HO_6 := mbR_ HO_6.out hb; replace HO_8 := mbR_ HO_8.out hb; replace HO_10 := mbR_ HO_10.out hb; replace HO_12 := mbR_ HO_12.out hb; replace HB := Aside0.mk (below_step (bq0_ HB.out) hb); (try clear hb)))
         go_roundg k2
         case measure => have := HJ3.out; have := HK2.out; omega
         case rel => exact ⟨(t618), (wrap64 (x15_2 + 1)), (by first | rfl | (simp; done) | (simp [*]; done)), (by first | rfl | (simp; done) | (simp [*]; done)), H', ⟨by have := HJ3.out; have := HK2.out; omega⟩, ⟨mvR_ HO_6.out⟩, ⟨mvR_ HO_8.out⟩, ⟨mvR_ HO_10.out⟩, ⟨mvR_ HO_12.out⟩, ⟨bq0_ HB.out⟩⟩
        ·rw [if_neg c23] at H
         exact absurd H (by simp)
       ·replace c22 := Bool.eq_false_iff.mpr c22
        subst c22
        have H1 : (fullerlaw23_ScriptBack.l0 k2 l0 l1 t599 t601 t602 t605 t606 t609 t610 t613 t614 false (wrap64 (x15_2 + 1))) = some r := by rw [if_neg (show ¬ (false = true) by decide)] at H; exact H
        clear H
        have H := H1
        clear H1
        have H' := Aside0.mk H
        clear H
        go_wp2
        go_roundg k2
        case measure => have := HJ3.out; have := HK2.out; omega
        case rel => exact ⟨(false), (wrap64 (x15_2 + 1)), (by first | rfl | (simp; done) | (simp [*]; done)), (by first | rfl | (simp; done) | (simp [*]; done)), H', ⟨by have := HJ3.out; have := HK2.out; omega⟩, ⟨mvR_ HO_6.out⟩, ⟨mvR_ HO_8.out⟩, ⟨mvR_ HO_10.out⟩, ⟨mvR_ HO_12.out⟩, ⟨bq0_ HB.out⟩⟩
      ·rw [if_neg c21] at H
       have c21b0 : decide (x15_2 < (l0.length : Int)) = false := decide_eq_false c21
       clear c21
       by_cases c26 : t602 = 0
       ·rw [if_pos c26] at H
        obtain ⟨c26b0, c26b1⟩ := eqT_ c26
        clear c26
        by_cases c27 : x14_2 = true
        ·subst c27
         have H1 : (if t606 = 0 then ((fullerref23_Same.f k2 t605 l0).bind fun t619 => (if t599 = true then (if t619 = true then (if t610 = 0 then (if t614 = 0 then (some ((strOfNums t613).toList == (strOfNums l1).toList)) else (some false)) else (if (t609.length : Int) = 0 then (some true) else (some false))) else (some false)) else (some false))) else (if t599 = true then (some false) else (some false))) = some r := by rw [if_pos rfl] at H; exact H
         clear H
         have H := H1
         clear H1
         by_cases c28 : t606 = 0
         ·rw [if_pos c28] at H
          obtain ⟨c28b0, c28b1⟩ := eqT_ c28
          clear c28
          replace H := Option.bind_eq_some_iff.mp H
          obtain ⟨t619, A290, H⟩ := H
          replace H : (if t599 = true then (if t619 = true then (if t610 = 0 then (if t614 = 0 then (some ((strOfNums t613).toList == (strOfNums l1).toList)) else (some false)) else (if (t609.length : Int) = 0 then (some true) else (some false))) else (some false)) else (some false)) = some r := H
          have A29 := Aside0.mk A290
          clear A290
          by_cases c30 : t599 = true
          ·subst c30
           have H1 : (if t619 = true then (if t610 = 0 then (if t614 = 0 then (some ((strOfNums t613).toList == (strOfNums l1).toList)) else (some false)) else (if (t609.length : Int) = 0 then (some true) else (some false))) else (some false)) = some r := by rw [if_pos rfl] at H; exact H
           clear H
           have H := H1
           clear H1
           by_cases c31 : t619 = true
           ·subst c31
            have H1 : (if t610 = 0 then (if t614 = 0 then (some ((strOfNums t613).toList == (strOfNums l1).toList)) else (some false)) else (if (t609.length : Int) = 0 then (some true) else (some false))) = some r := by rw [if_pos rfl] at H; exact H
            clear H
            have H := H1
            clear H1
            by_cases c32 : t610 = 0
            ·rw [if_pos c32] at H
             obtain ⟨c32b0, c32b1⟩ := eqT_ c32
             clear c32
             by_cases c33 : t614 = 0
             ·rw [if_pos c33] at H
              obtain ⟨c33b0, c33b1⟩ := eqT_ c33
              clear c33
              obtain rfl := Option.some.inj H
              obtain ⟨Ao34, co34, eo34⟩ := Kd.R_slice HO_8.out
              subst eo34
              go_wp2_with (first | (go_at_call 14; (with_reducible refine (fullerref23_Same.calls k2 _ _ t605 _ _ l0 true _ ?side1 ?side2 ?side3 ?side4 A29.out).mono ?_); (case side1 => exact mvC_ ((Kd.R_reads' HO_8.out).2.2)); (case side2 => exact (Kd.R_reads' HO_8.out).2.1); (case side3 => exact mvC_ ((Kd.C_below HR0.out HB.out))); (case side4 => exact HC0.out); rintro e w35 ⟨rfl, hb⟩; replace HO_6 := mbR_ HO_6.out hb; replace HO_8 := mbR_ HO_8.out hb; replace HO_10 := mbR_ HO_10.out hb; replace HO_12 := mbR_ HO_12.out hb; replace HB := Aside0.mk (below_step (bq0_ HB.out) hb); (try clear hb); have hcv36 := own_string (P := Try.prog) Try.underlying31 Try.underlying5 Try.underlying9 (Kd.own_of_R HO_12.out); have hcv37 := Kd.C_string (P := Try.prog) (A := A1) (c := c1) Try.underlying31 Try.underlying5 Try.underlying9 (Kd.C_below HR1.out HB.out)))
              go_ret
              exact ⟨by first | rfl | (simp <;> rfl) | (simp [*] <;> rfl), bq0_ HB.out⟩
             ·rw [if_neg c33] at H
              have c33b0 : (t614 == 0) = false := beq_eq_false_iff_ne.mpr c33
              have c33b1 : (t614 != 0) = true := bne_iff_ne.mpr c33
              obtain rfl := Option.some.inj H
              obtain ⟨Ao38, co38, eo38⟩ := Kd.R_slice HO_8.out
              subst eo38
              go_wp2_with (first | (go_at_call 14; (with_reducible refine (fullerref23_Same.calls k2 _ _ t605 _ _ l0 true _ ?side1 ?side2 ?side3 ?side4 A29.out).mono ?_); (case side1 => exact mvC_ ((Kd.R_reads' HO_8.out).2.2)); (case side2 => exact (Kd.R_reads' HO_8.out).2.1); (case side3 => exact mvC_ ((Kd.C_below HR0.out HB.out))); (case side4 => exact HC0.out); rintro e w39 ⟨rfl, hb⟩; replace HO_6 := mbR_ HO_6.out hb; replace HO_8 := mbR_ HO_8.out hb; replace HO_10 := mbR_ HO_10.out hb; replace HO_12 := mbR_ HO_12.out hb; replace HB := Aside0.mk (below_step (bq0_ HB.out) hb); (try clear hb)))
              go_ret
              exact ⟨by first | rfl | (simp <;> rfl) | (simp [*] <;> rfl), bq0_ HB.out⟩
            ·rw [if_neg c32] at H
             have c32b0 : (t610 == 0) = false := beq_eq_false_iff_ne.mpr c32
             have c32b1 : (t610 != 0) = true := bne_iff_ne.mpr c32
             by_cases c40 : (t609.length : Int) = 0
             ·rw [if_pos c40] at H
              obtain ⟨c40b0, c40b1⟩ := eqT_ c40
              clear c40
              obtain rfl := Option.some.inj H
              obtain ⟨Ao41, co41, eo41⟩ := Kd.R_slice HO_8.out
              subst eo41
              go_wp2_with (first | (go_at_call 14; (with_reducible refine (fullerref23_Same.calls k2 _ _ t605 _ _ l0 true _ ?side1 ?side2 ?side3 ?side4 A29.out).mono ?_); (case side1 => exact mvC_ ((Kd.R_reads' HO_8.out).2.2)); (case side2 => exact (Kd.R_reads' HO_8.out).2.1); (case side3 => exact mvC_ ((Kd.C_below HR0.out HB.out))); (case side4 => exact HC0.out); rintro e w42 ⟨rfl, hb⟩; replace HO_6 := mbR_ HO_6.out hb; replace HO_8 := mbR_ HO_8.out hb; replace HO_10 := mbR_ HO_10.out hb; replace HO_12 := mbR_ HO_12.out hb; replace HB := Aside0.mk (below_step (bq0_ HB.out) hb); (try clear hb)))
              go_ret
              exact ⟨by first | rfl | (simp <;> rfl) | (simp [*] <;> rfl), bq0_ HB.out⟩
             ·rw [if_neg c40] at H
              have c40b0 : ((t609.length : Int) == 0) = false := beq_eq_false_iff_ne.mpr c40
              have c40b1 : ((t609.length : Int) != 0) = true := bne_iff_ne.mpr c40
              have c40b2 : ¬ (t609 = []) := fun h_ => c40 (by rw [h_]; rfl)
              obtain rfl := Option.some.inj H
              obtain ⟨Ao43, co43, eo43⟩ := Kd.R_slice HO_8.out
              subst eo43
              go_wp2_with (first | (go_at_call 14; (with_reducible refine (fullerref23_Same.calls k2 _ _ t605 _ _ l0 true _ ?side1 ?side2 ?side3 ?side4 A29.out).mono ?_); (case side1 => exact mvC_ ((Kd.R_reads' HO_8.out).2.2)); (case side2 => exact (Kd.R_reads' HO_8.out).2.1); (case side3 => exact mvC_ ((Kd.C_below HR0.out HB.out))); (case side4 => exact HC0.out); rintro e w44 ⟨rfl, hb⟩; replace HO_6 := mbR_ HO_6.out hb; replace HO_8 := mbR_ HO_8.out hb; replace HO_10 := mbR_ HO_10.out hb; replace HO_12 := mbR_ HO_12.out hb; replace HB := Aside0.mk (below_step (bq0_ HB.out) hb); (try clear hb)))
              go_ret
              exact ⟨by first | rfl | (simp <;> rfl) | (simp [*] <;> rfl), bq0_ HB.out⟩
           ·replace c31 := Bool.eq_false_iff.mpr c31
            subst c31
            have H1 : (some false) = some r := by rw [if_neg (show ¬ (false = true) by decide)] at H; exact H
            clear H
            have H := H1
            clear H1
            obtain rfl := Option.some.inj H
            obtain ⟨Ao45, co45, eo45⟩ := Kd.R_slice HO_8.out
            subst eo45
            go_wp2_with (first | (go_at_call 14; (with_reducible refine (fullerref23_Same.calls k2 _ _ t605 _ _ l0 false _ ?side1 ?side2 ?side3 ?side4 A29.out).mono ?_); (case side1 => exact mvC_ ((Kd.R_reads' HO_8.out).2.2)); (case side2 => exact (Kd.R_reads' HO_8.out).2.1); (case side3 => exact mvC_ ((Kd.C_below HR0.out HB.out))); (case side4 => exact HC0.out); rintro e w46 ⟨rfl, hb⟩; replace HO_6 := mbR_ HO_6.out hb; replace HO_8 := mbR_ HO_8.out hb; replace HO_10 := mbR_ HO_10.out hb; replace HO_12 := mbR_ HO_12.out hb; replace HB := Aside0.mk (below_step (bq0_ HB.out) hb); (try clear hb)))
            go_ret
            exact ⟨by first | rfl | (simp <;> rfl) | (simp [*] <;> rfl), bq0_ HB.out⟩
          ·replace c30 := Bool.eq_false_iff.mpr c30
           subst c30
           have H1 : (some false) = some r := by rw [if_neg (show ¬ (false = true) by decide)] at H; exact H
           clear H
           have H := H1
           clear H1
           obtain rfl := Option.some.inj H
           obtain ⟨Ao47, co47, eo47⟩ := Kd.R_slice HO_8.out
           subst eo47
           go_wp2_with (first | (go_at_call 14; (with_reducible refine (fullerref23_Same.calls k2 _ _ t605 _ _ l0 t619 _ ?side1 ?side2 ?side3 ?side4 A29.out).mono ?_); (case side1 => exact mvC_ ((Kd.R_reads' HO_8.out).2.2)); (case side2 => exact (Kd.R_reads' HO_8.out).2.1); (case side3 => exact mvC_ ((Kd.C_below HR0.out HB.out))); (case side4 => exact HC0.out); rintro e w48 ⟨rfl, hb⟩; replace HO_6 := mbR_ HO_6.out hb; replace HO_8 := mbR_ HO_8.out hb; replace HO_10 := mbR_ HO_10.out hb; replace HO_12 := mbR_ HO_12.out hb; replace HB := Aside0.mk (below_step (bq0_ HB.out) hb); (try clear hb)))
           go_ret
           exact ⟨by first | rfl | (simp <;> rfl) | (simp [*] <;> rfl), bq0_ HB.out⟩
         ·rw [if_neg c28] at H
          have c28b0 : (t606 == 0) = false := beq_eq_false_iff_ne.mpr c28
          have c28b1 : (t606 != 0) = true := bne_iff_ne.mpr c28
          by_cases c49 : t599 = true
          ·subst c49
           have H1 : (some false) = some r := by rw [if_pos rfl] at H; exact H
           clear H
           have H := H1
           clear H1
           obtain rfl := Option.some.inj H
           go_wp2
           go_ret
           exact ⟨by first | rfl | (simp <;> rfl) | (simp [*] <;> rfl), bq0_ HB.out⟩
          ·replace c49 := Bool.eq_false_iff.mpr c49
           subst c49
           have H1 : (some false) = some r := by rw [if_neg (show ¬ (false = true) by decide)] at H; exact H
           clear H
           have H := H1
           clear H1
           obtain rfl := Option.some.inj H
           go_wp2
           go_ret
           exact ⟨by first | rfl | (simp <;> rfl) | (simp [*] <;> rfl), bq0_ HB.out⟩
        ·replace c27 := Bool.eq_false_iff.mpr c27
         subst c27
         have H1 : (if t599 = true then (some false) else (some false)) = some r := by rw [if_neg (show ¬ (false = true) by decide)] at H; exact H
         clear H
         have H := H1
         clear H1
         by_cases c50 : t599 = true
         ·subst c50
          have H1 : (some false) = some r := by rw [if_pos rfl] at H; exact H
          clear H
          have H := H1
          clear H1
          obtain rfl := Option.some.inj H
          go_wp2
          go_ret
          exact ⟨by first | rfl | (simp <;> rfl) | (simp [*] <;> rfl), bq0_ HB.out⟩
         ·replace c50 := Bool.eq_false_iff.mpr c50
          subst c50
          have H1 : (some false) = some r := by rw [if_neg (show ¬ (false = true) by decide)] at H; exact H
          clear H
          have H := H1
          clear H1
          obtain rfl := Option.some.inj H
          go_wp2
          go_ret
          exact ⟨by first | rfl | (simp <;> rfl) | (simp [*] <;> rfl), bq0_ HB.out⟩
       ·rw [if_neg c26] at H
        have c26b0 : (t602 == 0) = false := beq_eq_false_iff_ne.mpr c26
        have c26b1 : (t602 != 0) = true := bne_iff_ne.mpr c26
        by_cases c51 : x14_2 = true
        ·subst c51
         have H1 : (if t599 = true then (some false) else (some false)) = some r := by rw [if_pos rfl] at H; exact H
         clear H
         have H := H1
         clear H1
         by_cases c52 : t599 = true
         ·subst c52
          have H1 : (some false) = some r := by rw [if_pos rfl] at H; exact H
          clear H
          have H := H1
          clear H1
          obtain rfl := Option.some.inj H
          go_wp2
          go_ret
          exact ⟨by first | rfl | (simp <;> rfl) | (simp [*] <;> rfl), bq0_ HB.out⟩
         ·replace c52 := Bool.eq_false_iff.mpr c52
          subst c52
          have H1 : (some false) = some r := by rw [if_neg (show ¬ (false = true) by decide)] at H; exact H
          clear H
          have H := H1
          clear H1
          obtain rfl := Option.some.inj H
          go_wp2
          go_ret
          exact ⟨by first | rfl | (simp <;> rfl) | (simp [*] <;> rfl), bq0_ HB.out⟩
        ·replace c51 := Bool.eq_false_iff.mpr c51
         subst c51
         have H1 : (if (t601.length : Int) = 0 then (if t599 = true then (if t610 = 0 then (if t614 = 0 then (some ((strOfNums t613).toList == (strOfNums l1).toList)) else (some false)) else (if (t609.length : Int) = 0 then (some true) else (some false))) else (some false)) else (if t599 = true then (some false) else (some false))) = some r := by rw [if_neg (show ¬ (false = true) by decide)] at H; exact H
         clear H
         have H := H1
         clear H1
         by_cases c53 : (t601.length : Int) = 0
         ·rw [if_pos c53] at H
          obtain ⟨c53b0, c53b1⟩ := eqT_ c53
          clear c53
          by_cases c54 : t599 = true
          ·subst c54
           have H1 : (if t610 = 0 then (if t614 = 0 then (some ((strOfNums t613).toList == (strOfNums l1).toList)) else (some false)) else (if (t609.length : Int) = 0 then (some true) else (some false))) = some r := by rw [if_pos rfl] at H; exact H
           clear H
           have H := H1
           clear H1
           by_cases c55 : t610 = 0
           ·rw [if_pos c55] at H
            obtain ⟨c55b0, c55b1⟩ := eqT_ c55
            clear c55
            by_cases c56 : t614 = 0
            ·rw [if_pos c56] at H
             obtain ⟨c56b0, c56b1⟩ := eqT_ c56
             clear c56
             obtain rfl := Option.some.inj H
             have hcv57 := own_string (P := Try.prog) Try.underlying31 Try.underlying5 Try.underlying9 (Kd.own_of_R HO_12.out)
             have hcv58 := Kd.C_string (P := Try.prog) (A := A1) (c := c1) Try.underlying31 Try.underlying5 Try.underlying9 (Kd.C_below HR1.out HB.out)
             go_wp2
             go_ret
             exact ⟨by first | rfl | (simp <;> rfl) | (simp [*] <;> rfl), bq0_ HB.out⟩
            ·rw [if_neg c56] at H
             have c56b0 : (t614 == 0) = false := beq_eq_false_iff_ne.mpr c56
             have c56b1 : (t614 != 0) = true := bne_iff_ne.mpr c56
             obtain rfl := Option.some.inj H
             go_wp2
             go_ret
             exact ⟨by first | rfl | (simp <;> rfl) | (simp [*] <;> rfl), bq0_ HB.out⟩
           ·rw [if_neg c55] at H
            have c55b0 : (t610 == 0) = false := beq_eq_false_iff_ne.mpr c55
            have c55b1 : (t610 != 0) = true := bne_iff_ne.mpr c55
            by_cases c59 : (t609.length : Int) = 0
            ·rw [if_pos c59] at H
             obtain ⟨c59b0, c59b1⟩ := eqT_ c59
             clear c59
             obtain rfl := Option.some.inj H
             go_wp2
             go_ret
             exact ⟨by first | rfl | (simp <;> rfl) | (simp [*] <;> rfl), bq0_ HB.out⟩
            ·rw [if_neg c59] at H
             have c59b0 : ((t609.length : Int) == 0) = false := beq_eq_false_iff_ne.mpr c59
             have c59b1 : ((t609.length : Int) != 0) = true := bne_iff_ne.mpr c59
             have c59b2 : ¬ (t609 = []) := fun h_ => c59 (by rw [h_]; rfl)
             obtain rfl := Option.some.inj H
             go_wp2
             go_ret
             exact ⟨by first | rfl | (simp <;> rfl) | (simp [*] <;> rfl), bq0_ HB.out⟩
          ·replace c54 := Bool.eq_false_iff.mpr c54
           subst c54
           have H1 : (some false) = some r := by rw [if_neg (show ¬ (false = true) by decide)] at H; exact H
           clear H
           have H := H1
           clear H1
           obtain rfl := Option.some.inj H
           go_wp2
           go_ret
           exact ⟨by first | rfl | (simp <;> rfl) | (simp [*] <;> rfl), bq0_ HB.out⟩
         ·rw [if_neg c53] at H
          have c53b0 : ((t601.length : Int) == 0) = false := beq_eq_false_iff_ne.mpr c53
          have c53b1 : ((t601.length : Int) != 0) = true := bne_iff_ne.mpr c53
          have c53b2 : ¬ (t601 = []) := fun h_ => c53 (by rw [h_]; rfl)
          by_cases c60 : t599 = true
          ·subst c60
           have H1 : (some false) = some r := by rw [if_pos rfl] at H; exact H
           clear H
           have H := H1
           clear H1
           obtain rfl := Option.some.inj H
           go_wp2
           go_ret
           exact ⟨by first | rfl | (simp <;> rfl) | (simp [*] <;> rfl), bq0_ HB.out⟩
          ·replace c60 := Bool.eq_false_iff.mpr c60
           subst c60
           have H1 : (some false) = some r := by rw [if_neg (show ¬ (false = true) by decide)] at H; exact H
           clear H
           have H := H1
           clear H1
           obtain rfl := Option.some.inj H
           go_wp2
           go_ret
           exact ⟨by first | rfl | (simp <;> rfl) | (simp [*] <;> rfl), bq0_ HB.out⟩

/-- THE ONE PURE STATEMENT of fullerlaw23_ScriptBack: yours. -/
def fullerlaw23_ScriptBack.Pure : Prop := ∀ (l0 : List (S30)) (l1 : List Int), (l0.length * 136 ≤ 140737488351232 ∧ ∀ x_ ∈ l0, OK30 x_) → (l1.length * 1 ≤ 140737488351232 ∧ ∀ x_ ∈ l1, (Lit.int .u8 x_).wf = true) → ∃ k, fullerlaw23_ScriptBack.f k l0 l1 = some true
theorem fullerlaw23_ScriptBack.walk (P : fullerlaw23_ScriptBack.Pure) (A0 : Option Addr) (c0 : Nat) (l0 : List (S30)) (A1 : Option Addr) (c1 : Nat) (l1 : List Int) (w : World) (hr0 : Kd.C k30 w A0 l0.length l0) (hc0 : l0.length ≤ c0) (hr1 : Kd.C (Kd.int .u8) w A1 l1.length l1) (hc1 : l1.length ≤ c1) (hg0 : l0.length * 136 ≤ 140737488351232 ∧ ∀ x_ ∈ l0, OK30 x_) (hg1 : l1.length * 1 ≤ 140737488351232 ∧ ∀ x_ ∈ l1, (Lit.int .u8 x_).wf = true) :
  Calls Try.prog 4 #[.slice A0 l0.length c0, .slice A1 l1.length c1] w fun e w' => e = .returned (.bool true) ∧ Below w.heap.size w w' := by
 obtain ⟨k, h⟩ := P l0 l1 hg0 hg1
 refine (fullerlaw23_ScriptBack.calls k _ _ l0 _ _ l1 true w hr0 hc0 hr1 hc1 h).mono ?_
 rintro e w' ⟨rfl, hd⟩
 exact ⟨rfl, hd⟩

end Go.Proofs.Ytjcgadfmhfhbgaa.A
