/- Lean functions that answer as the Go functions do, and the proofs that they do; no conditions. Written by this session's own driver: a scratch copy of the kit's print with the session's additions (wip/xprint). -/
import Derived.Test.YtjcgadfmhfhbgaaAx0
import Derived.Test.YtjcgadfmhfhbgaaAx7
import Derived.Test.YtjcgadfmhfhbgaaAx14
import Derived.Test.YtjcgadfmhfhbgaaAx15
namespace Go.Proofs.Ytjcgadfmhfhbgaa.A
open Go.RowKit Go.Proofs.YtjcgadfmhfhbgaaW.PrintWords Go.Proofs.YtjcgadfmhfhbgaaW.PrintLast Go.Proofs.YtjcgadfmhfhbgaaW.PrintMore
attribute [local go_sem] max2_int min2_int max_two min_two max_three min_three max_four min_four   -- for this text's walks alone
set_option linter.unusedVariables false
set_option linter.unusedSimpArgs false

def L7_0 : Array Bool := #[false, false, false, false, false, false, false, false, false, false, false, false, false, false, false, false, false, false, false, false, false]
def L7_1 : Array Bool := #[true, false, false, false, false, false, false, false, false, false, false, false, false, false, false, false, false, false, false, false, false]
def L7_2 : Array Bool := #[true, true, false, false, false, false, false, false, false, false, false, false, false, false, false, false, false, false, false, false, false]
def L7_3 : Array Bool := #[true, true, true, false, false, false, false, false, false, false, false, false, false, false, false, false, false, false, false, false, false]
def L7_4 : Array Bool := #[true, true, true, true, false, false, false, false, false, false, false, false, false, false, false, false, false, false, false, false, false]
def L7_5 : Array Bool := #[true, true, true, true, true, false, false, false, false, false, false, false, false, false, false, false, false, false, false, false, false]
def L7_6 : Array Bool := #[true, true, true, true, true, true, false, false, false, false, false, false, false, false, false, false, false, false, false, false, false]
def L7_7 : Array Bool := #[true, true, true, true, true, true, true, false, false, false, false, false, false, false, false, false, false, false, false, false, false]
def L7_8 : Array Bool := #[true, true, true, true, true, true, true, true, false, false, false, false, false, false, false, false, false, false, false, false, false]
def L7_9 : Array Bool := #[true, true, true, true, true, true, true, true, true, false, false, false, false, false, false, false, false, false, false, false, false]
def L7_10 : Array Bool := #[true, true, true, true, true, true, true, true, true, true, false, false, false, false, false, false, false, false, false, false, false]
def L7_11 : Array Bool := #[true, true, true, true, true, true, true, true, true, true, true, false, false, false, false, false, false, false, false, false, false]
def L7_12 : Array Bool := #[true, true, true, true, true, true, true, true, true, true, true, true, false, false, false, false, false, false, false, false, false]
def L7_13 : Array Bool := #[true, true, true, true, true, true, true, true, true, true, true, true, true, false, false, false, false, false, false, false, false]
def L7_14 : Array Bool := #[true, true, true, true, true, true, true, true, true, true, true, true, true, true, false, false, false, false, false, false, false]
def L7_15 : Array Bool := #[true, true, true, true, true, true, true, true, true, true, true, true, true, true, true, false, false, false, false, false, false]
def L7_16 : Array Bool := #[true, true, true, true, true, true, true, true, true, true, true, true, true, true, true, true, false, false, false, false, false]
def L7_17 : Array Bool := #[true, true, true, true, true, true, true, true, true, true, true, true, true, true, true, true, true, false, false, false, false]
def L7_18 : Array Bool := #[true, true, true, true, true, true, true, true, true, true, true, true, true, true, true, true, true, true, false, false, false]
def L7_19 : Array Bool := #[true, true, true, true, true, true, true, true, true, true, true, true, true, true, true, true, true, true, true, false, false]
def L7_20 : Array Bool := #[true, true, true, true, true, true, true, true, true, true, true, true, true, true, true, true, true, true, true, true, false]
def L7_21 : Array Bool := #[true, true, true, true, true, true, true, true, true, true, true, true, true, true, true, true, true, true, true, true, true]
/-! ### fullerlaw23_ScriptApart: function 7 -/
def fullerlaw23_ScriptApart.j0 : Nat → List (S30) → List (S30) → Bool → Bool → Option (Bool)
 | 0, _, _, _, _ => none
 | k + 1, x0, x1, x5, x18 => if x18 = true then (some x5) else ((script_Write.f k x0).bind fun bt693 => ((script_Write.f k x1).bind fun bt697 => (if x5 = true then (if bt693.2 = 0 then (if bt697.2 = 0 then ((fullerref23_Same.f k x0 x1).bind fun t701 => (some (((strOfNums bt693.1).toList == (strOfNums bt697.1).toList) == t701))) else (some true)) else (some true)) else (some false))))
def fullerlaw23_ScriptApart.f (k : Nat) (l0 : List (S30)) (l1 : List (S30)) : Option (Bool) := (fullerlaw23_awake.f k).bind fun t690 => ((fullerref21_Cmds.f k l0 100).bind fun t691 => (if t691 = true then ((fullerref21_Cmds.f k l1 100).bind fun t692 => (fullerlaw23_ScriptApart.j0 k l0 l1 t690 (!t692))) else (fullerlaw23_ScriptApart.j0 k l0 l1 t690 true)))
theorem fullerlaw23_ScriptApart.mono_l : ∀ k, (∀ y0 y1 y2 y3, LeO (fullerlaw23_ScriptApart.j0 k y0 y1 y2 y3) (fullerlaw23_ScriptApart.j0 (k + 1) y0 y1 y2 y3))
 | 0 => fun _ _ _ _ r h => by simp [fullerlaw23_ScriptApart.j0] at h
 | k + 1 => by
  have ih0 := fullerlaw23_ScriptApart.mono_l k
  ·intro y0 y1 y2 y3
   unfold fullerlaw23_ScriptApart.j0
   repeat' first
   | (with_reducible exact ih0 _ _ _ _)
   | (with_reducible exact fullerlaw23_awake.mono _)
   | (with_reducible exact fullerref21_Cmds.mono _ _ _)
   | (with_reducible exact fullerref23_Same.mono _ _ _)
   | (with_reducible exact script_Write.mono _ _)
   | (with_reducible exact LeO.refl _)
   | (with_reducible exact LeO.none _)
   | (with_reducible refine LeO.ite ?_ ?_)
   | (with_reducible refine LeO.bind ?_ (fun _ => ?_))
   | exact ih0 _ _ _ _
   | exact fullerlaw23_awake.mono _
   | exact fullerref21_Cmds.mono _ _ _
   | exact fullerref23_Same.mono _ _ _
   | exact script_Write.mono _ _
   | exact LeO.none _
   | refine LeO.ite ?_ ?_
   | refine LeO.bind ?_ (fun _ => ?_)
theorem fullerlaw23_ScriptApart.mono : ∀ a0 a1 k, LeO (fullerlaw23_ScriptApart.f k a0 a1) (fullerlaw23_ScriptApart.f (k + 1) a0 a1) := by
 intro a0 a1 k
 have ih0 := fullerlaw23_ScriptApart.mono_l k
 unfold fullerlaw23_ScriptApart.f
 repeat' first
   | (with_reducible exact ih0 _ _ _ _)
   | (with_reducible exact fullerlaw23_awake.mono _)
   | (with_reducible exact fullerref21_Cmds.mono _ _ _)
   | (with_reducible exact fullerref23_Same.mono _ _ _)
   | (with_reducible exact script_Write.mono _ _)
   | (with_reducible exact LeO.refl _)
   | (with_reducible exact LeO.none _)
   | (with_reducible refine LeO.ite ?_ ?_)
   | (with_reducible refine LeO.bind ?_ (fun _ => ?_))
   | exact ih0 _ _ _ _
   | exact fullerlaw23_awake.mono _
   | exact fullerref21_Cmds.mono _ _ _
   | exact fullerref23_Same.mono _ _ _
   | exact script_Write.mono _ _
   | exact LeO.none _
   | refine LeO.ite ?_ ?_
   | refine LeO.bind ?_ (fun _ => ?_)
def fullerlaw23_ScriptApart.T6 : Bool × List (List Nat × List Nat) := (true, [([], []), ([0], [0]), ([1], [1]), ([2, 1], [1, 2]), ([3, 1, 1], [1, 3]), ([4], [4]), ([5, 4], [4, 5]), ([4, 6, 1], [1, 4, 6]), ([7, 4, 1], [1, 7]), ([8], [8]), ([9, 8], [8, 9]), ([8], [8]), ([11, 8], [8, 11]), ([10, 12, 8], [8, 10, 12]), ([8], [8]), ([8], [8]), ([14, 15, 8, 8], [8, 14, 15]), ([13, 16, 8], [8, 13, 16]), ([8, 17, 1], [1, 8, 17]), ([1, 18], [1, 18]), ([19, 16, 0, 1, 2, 3, 4, 5, 6, 7, 8, 9, 10, 11, 12, 13, 14, 15, 16, 17, 18, 19], [19])])
def fullerlaw23_ScriptApart.B6 : List Nat := [0, 1, 3, 7, 15, 31, 63, 127, 255, 511, 1023, 511, 2559, 8191, 511, 511, 49663, 131071, 262143, 524287, 1048575]
theorem fullerlaw23_ScriptApart.tab6 : rtab .any (opsOf Try.f7 6) = fullerlaw23_ScriptApart.T6 := by kernel_rfl
theorem fullerlaw23_ScriptApart.bits6 : waitsOk fullerlaw23_ScriptApart.T6.2 fullerlaw23_ScriptApart.B6 = true := by kernel_rfl
/-- Two conversions answer so here; they do in another world. -/
abbrev HeldC_ (P : Program) (s d s2 d2 : TypeId) (v x v2 x2 : Value) (w' : World) : Prop := (convert s d v).run P w' = .ok x w' ∧ (convert s2 d2 v2).run P w' = .ok x2 w'
set_option maxHeartbeats 8000000 in
set_option maxRecDepth 100000 in
theorem fullerlaw23_ScriptApart.calls (k : Nat) (A0 : Option Addr) (c0 : Nat) (l0 : List (S30)) (A1 : Option Addr) (c1 : Nat) (l1 : List (S30)) (r : Bool) (w : World) (hr0 : Kd.C k30 w A0 l0.length l0) (hc0 : l0.length ≤ c0) (hr1 : Kd.C k30 w A1 l1.length l1) (hc1 : l1.length ≤ c1) (h : fullerlaw23_ScriptApart.f k l0 l1 = some r) :
  Calls Try.prog 7 #[.slice A0 l0.length c0, .slice A1 l1.length c1] w fun e w' => e = .returned (.bool r) ∧ Below w.heap.size w w' := by
 have HR0 := Aside0.mk hr0
 have HC0 := Aside0.mk hc0
 clear hr0 hc0
 have HR1 := Aside0.mk hr1
 have HC1 := Aside0.mk hc1
 clear hr1 hc1
 have HB := Aside0.mk (Below.refl w.heap.size w)
 have H : ((fullerlaw23_awake.f k).bind fun t690 => ((fullerref21_Cmds.f k l0 100).bind fun t691 => (if t691 = true then ((fullerref21_Cmds.f k l1 100).bind fun t692 => (fullerlaw23_ScriptApart.j0 k l0 l1 t690 (!t692))) else (fullerlaw23_ScriptApart.j0 k l0 l1 t690 true)))) = some r := h
 clear h
 replace H := Option.bind_eq_some_iff.mp H
 obtain ⟨t690, A30, H⟩ := H
 replace H : ((fullerref21_Cmds.f k l0 100).bind fun t691 => (if t691 = true then ((fullerref21_Cmds.f k l1 100).bind fun t692 => (fullerlaw23_ScriptApart.j0 k l0 l1 t690 (!t692))) else (fullerlaw23_ScriptApart.j0 k l0 l1 t690 true))) = some r := H
 have A3 := Aside0.mk A30
 clear A30
 have HC4 := Aside0.mk H
 clear H
 go_enter Try.func7, Try.ntmps7
 go_upto_region 2 with (first | ((with_reducible refine gate_callee (f := 8) rfl ?_); refine gL_ (some 10) Try.func8 #[] ?_; (with_reducible refine (fullerlaw23_awake.calls k  t690 _ A3.out).mono ?_); rintro e w5 ⟨rfl, hb⟩; refine ⟨_, rfl, ?_⟩; replace HB := Aside0.mk (below_step (bq0_ HB.out) hb); (try clear hb)))
 (try simp only [Act.put, sA_, sB_, sC_])
 go_cut [18] (fun v18 wc => ∃ (kq : Nat) (x18_3 : Bool), v18 = .bool x18_3 ∧ Aside0 (fullerlaw23_ScriptApart.j0 kq l0 l1 t690 x18_3 = some r) ∧ Aside0 (kq ≤ k) ∧ Aside0 (Below w.heap.size w wc))
 case first =>
  have H := HC4.out
  clear HC4
  replace H := Option.bind_eq_some_iff.mp H
  obtain ⟨t691, A60, H⟩ := H
  replace H : (if t691 = true then ((fullerref21_Cmds.f k l1 100).bind fun t692 => (fullerlaw23_ScriptApart.j0 k l0 l1 t690 (!t692))) else (fullerlaw23_ScriptApart.j0 k l0 l1 t690 true)) = some r := H
  have A6 := Aside0.mk A60
  clear A60
  by_cases c7 : t691 = true
  ·subst c7
   have H1 : ((fullerref21_Cmds.f k l1 100).bind fun t692 => (fullerlaw23_ScriptApart.j0 k l0 l1 t690 (!t692))) = some r := by rw [if_pos rfl] at H; exact H
   clear H
   have H := H1
   clear H1
   replace H := Option.bind_eq_some_iff.mp H
   obtain ⟨t692, A80, H⟩ := H
   replace H : (fullerlaw23_ScriptApart.j0 k l0 l1 t690 (!t692)) = some r := H
   have A8 := Aside0.mk A80
   clear A80
   have H' := Aside0.mk H
   clear H
   go_wp2_with (first | ((with_reducible refine gate_callee (f := 9) rfl ?_); refine gL_ (some 12) Try.func9 #[.slice A0 l0.length c0, .int .i64 100] ?_; (with_reducible refine (fullerref21_Cmds.calls k _ _ l0 100 true _ ?side1 ?side2 A6.out).mono ?_); (case side1 => exact mvC_ ((Kd.C_below HR0.out HB.out))); (case side2 => exact HC0.out); rintro e w9 ⟨rfl, hb⟩; refine ⟨_, rfl, ?_⟩; replace HB := Aside0.mk (below_step (bq0_ HB.out) hb); (try clear hb)) | (go_at_call 9; (with_reducible refine (fullerref21_Cmds.calls k _ _ l1 100 t692 _ ?side1 ?side2 A8.out).mono ?_); (case side1 => exact mvC_ ((Kd.C_below HR1.out HB.out))); (case side2 => exact HC1.out); rintro e w10 ⟨rfl, hb⟩; replace HB := Aside0.mk (below_step (bq0_ HB.out) hb); (try clear hb)))
   go_meet
   case rel => exact ⟨_, (!t692), (by first | rfl | (simp; done) | (simp [*]; done)), H', ⟨by first | omega | exact Nat.le_refl _⟩, ⟨bq0_ HB.out⟩⟩
  ·replace c7 := Bool.eq_false_iff.mpr c7
   subst c7
   have H1 : (fullerlaw23_ScriptApart.j0 k l0 l1 t690 true) = some r := by rw [if_neg (show ¬ (false = true) by decide)] at H; exact H
   clear H
   have H := H1
   clear H1
   have H' := Aside0.mk H
   clear H
   go_wp2_with (first | ((with_reducible refine gate_callee (f := 9) rfl ?_); refine gL_ (some 12) Try.func9 #[.slice A0 l0.length c0, .int .i64 100] ?_; (with_reducible refine (fullerref21_Cmds.calls k _ _ l0 100 false _ ?side1 ?side2 A6.out).mono ?_); (case side1 => exact mvC_ ((Kd.C_below HR0.out HB.out))); (case side2 => exact HC0.out); rintro e w11 ⟨rfl, hb⟩; refine ⟨_, rfl, ?_⟩; replace HB := Aside0.mk (below_step (bq0_ HB.out) hb); (try clear hb)))
   go_meet
   case rel => exact ⟨_, (true), (by first | rfl | (simp; done) | (simp [*]; done)), H', ⟨by first | omega | exact Nat.le_refl _⟩, ⟨bq0_ HB.out⟩⟩
 case rest =>
  clear HC4
  try clear c1
  try clear p2
  try clear c7
  try clear c8
  try clear c9
  obtain ⟨kq, x18_3, rfl, HA, HJ3, HB⟩ := hcut
  cases kq with
  | zero => exact absurd HA.out (by simp [fullerlaw23_ScriptApart.j0])
  | succ kj3 =>
   have H := HA.out
   clear HA
   simp only [fullerlaw23_ScriptApart.j0] at H
   by_cases c12 : x18_3 = true
   ·subst c12
    have H1 : (some t690) = some r := by rw [if_pos rfl] at H; exact H
    clear H
    have H := H1
    clear H1
    obtain rfl := Option.some.inj H
    go_wp2
    go_ret
    exact ⟨by first | rfl | (simp <;> rfl) | (simp [*] <;> rfl), bq0_ HB.out⟩
   ·replace c12 := Bool.eq_false_iff.mpr c12
    subst c12
    have H1 : ((script_Write.f kj3 l0).bind fun bt693 => ((script_Write.f kj3 l1).bind fun bt697 => (if t690 = true then (if bt693.2 = 0 then (if bt697.2 = 0 then ((fullerref23_Same.f kj3 l0 l1).bind fun t701 => (some (((strOfNums bt693.1).toList == (strOfNums bt697.1).toList) == t701))) else (some true)) else (some true)) else (some false)))) = some r := by rw [if_neg (show ¬ (false = true) by decide)] at H; exact H
    clear H
    have H := H1
    clear H1
    replace H := Option.bind_eq_some_iff.mp H
    obtain ⟨⟨t693, t694⟩, A130, H⟩ := H
    replace H : ((script_Write.f kj3 l1).bind fun bt697 => (if t690 = true then (if t694 = 0 then (if bt697.2 = 0 then ((fullerref23_Same.f kj3 l0 l1).bind fun t701 => (some (((strOfNums t693).toList == (strOfNums bt697.1).toList) == t701))) else (some true)) else (some true)) else (some false))) = some r := H
    have A13 := Aside0.mk A130
    clear A130
    replace H := Option.bind_eq_some_iff.mp H
    obtain ⟨⟨t697, t698⟩, A140, H⟩ := H
    replace H : (if t690 = true then (if t694 = 0 then (if t698 = 0 then ((fullerref23_Same.f kj3 l0 l1).bind fun t701 => (some (((strOfNums t693).toList == (strOfNums t697).toList) == t701))) else (some true)) else (some true)) else (some false)) = some r := H
    have A14 := Aside0.mk A140
    clear A140
    by_cases c15 : t690 = true
    ·subst c15
     have H1 : (if t694 = 0 then (if t698 = 0 then ((fullerref23_Same.f kj3 l0 l1).bind fun t701 => (some (((strOfNums t693).toList == (strOfNums t697).toList) == t701))) else (some true)) else (some true)) = some r := by rw [if_pos rfl] at H; exact H
     clear H
     have H := H1
     clear H1
     by_cases c16 : t694 = 0
     ·rw [if_pos c16] at H
      obtain ⟨c16b0, c16b1⟩ := eqT_ c16
      clear c16
      by_cases c17 : t698 = 0
      ·rw [if_pos c17] at H
       obtain ⟨c17b0, c17b1⟩ := eqT_ c17
       clear c17
       replace H := Option.bind_eq_some_iff.mp H
       obtain ⟨t701, A180, H⟩ := H
       replace H : (some (((strOfNums t693).toList == (strOfNums t697).toList) == t701)) = some r := H
       have A18 := Aside0.mk A180
       clear A180
       obtain rfl := Option.some.inj H
       try go_wp2_with (first | ((with_reducible refine gate_callee (f := 10) rfl ?_); refine gL_ (some 22) Try.func10 #[.slice A0 l0.length c0] ?_; (with_reducible refine (script_Write.calls kj3 _ _ l0 t693 t694 _ ?side1 ?side2 A13.out).mono ?_); (case side1 => exact mvC_ ((Kd.C_below HR0.out HB.out))); (case side2 => exact HC0.out); rintro e w19 ⟨v695, rfl, ho0, hb⟩; refine ⟨_, rfl, ?_⟩; have HO696 := Aside0.mk (Kd.R_lower ho0 (below_size (bq0_ HB.out))); replace HB := Aside0.mk (below_step (bq0_ HB.out) hb); (try clear hb); (try clear ho0)) | ((with_reducible refine gate_callee (f := 10) rfl ?_); refine gL_ (some 27) Try.func10 #[.slice A1 l1.length c1] ?_; (with_reducible refine (script_Write.calls kj3 _ _ l1 t697 t698 _ ?side1 ?side2 A14.out).mono ?_); (case side1 => exact mvC_ ((Kd.C_below HR1.out HB.out))); (case side2 => exact HC1.out); rintro e w20 ⟨v699, rfl, ho0, hb⟩; refine ⟨_, rfl, ?_⟩; have HO700 := Aside0.mk (Kd.R_lower ho0 (below_size (bq0_ HB.out))); replace HO696 := mbR_ HO696.out hb; replace HB := Aside0.mk (below_step (bq0_ HB.out) hb); (try clear hb); (try clear ho0)))
       replace HO696 := Aside0.mk (Kd.R_drew HO696.out)
       replace HO700 := Aside0.mk (Kd.R_drew HO700.out)
       replace HB := Aside0.mk (below_drew1 HB.out)
       have hcv22 := own_string (P := Try.prog) Try.underlying31 Try.underlying5 Try.underlying9 (Kd.own_of_R HO696.out)
       have hcv23 := own_string (P := Try.prog) Try.underlying31 Try.underlying5 Try.underlying9 (Kd.own_of_R HO700.out)
       refine start_ (n := 21) (S := HeldC_ _ _ _ _ _ _ _ _ _) (ds := []) L7_0 (by kernel_rfl) rfl rfl ⟨hcv22, hcv23⟩ (fun hHeld => ?_); refine with_tabW fullerlaw23_ScriptApart.tab6 fullerlaw23_ScriptApart.bits6 (fun HT_ HW_ => ?_)
       generalize w20.drew = w21 at HO696 HO700 HB hHeld ⊢
       refine pu_ 0 (some 30) L7_1 HT_ ?_
       refine pu_ 1 (some 31) L7_2 HT_ ?_
       refine pu_ 2 (some 32) L7_3 HT_ ?_
       refine pu_ 3 (some 33) L7_4 HT_ ?_
       refine pu_ 4 (some 34) L7_5 HT_ ?_
       refine pu_ 5 (some 35) L7_6 HT_ ?_
       refine pu_ 6 (some 36) L7_7 HT_ ?_
       refine pu_ 7 (some 37) L7_8 HT_ ?_
       refine pu_ 8 (some 38) L7_9 HT_ ?_
       refine pu_ 9 (some 39) L7_10 HT_ ?_
       refine ta_ 10 (some 40) L7_11 HT_ HW_ hHeld ?_ (hy := by rintro w' ⟨s0, s1⟩; go_simp; with_reducible rfl)
       refine pu_ 11 (some 41) L7_12 HT_ ?_
       refine ta_ 12 (some 42) L7_13 HT_ HW_ hHeld ?_ (hy := by rintro w' ⟨s0, s1⟩; go_simp; with_reducible rfl)
       refine pu_ 13 (some 43) L7_14 HT_ ?_
       refine pu_ 14 (some 44) L7_15 HT_ ?_
       refine pu_ 15 (some 45) L7_16 HT_ ?_
       refine one_ (i := 16) (N := some 46) L7_17 rfl rfl (one_of HT_.out (by kernel_rfl)) (by decide) (fun K hK => ?_)
       refine goes_ Try.func14 (by kernel_rfl) rfl #[.slice A0 l0.length c0, .slice A1 l1.length c1] (by rfl) rfl rfl (by (try simp only [List.map_toArray, List.map_cons, List.map_nil]); first | done | rfl | (simp only [List.length_drop, List.length_take]; rfl)) ?_
       with_reducible refine (fullerref23_Same.calls kj3 _ _ l0 _ _ l1 t701 _ ?side1 ?side2 ?side3 ?side4 A18.out).mono ?_
       (case side1 => exact mvC_ ((Kd.C_below HR0.out HB.out)))
       (case side2 => exact HC0.out)
       (case side3 => exact mvC_ ((Kd.C_below HR1.out HB.out)))
       (case side4 => exact HC1.out)
       rintro e w24 ⟨rfl, hb⟩
       refine ⟨_, rfl, ?_⟩
       replace HO696 := mbR_ HO696.out hb
       replace HO700 := mbR_ HO700.out hb
       replace HB := Aside0.mk (below_step (bq0_ HB.out) hb)
       (try clear hb)
       (try clear hb2)
       (try clear hk)
       (try clear hi)
       refine hK.out _ _ ⟨own_string (P := Try.prog) Try.underlying31 Try.underlying5 Try.underlying9 (Kd.own_of_R HO696.out), own_string (P := Try.prog) Try.underlying31 Try.underlying5 Try.underlying9 (Kd.own_of_R HO700.out)⟩ (fun hHeld => ?_)
       clear hK K
       refine norm_ (a' := ?_) ?_ ?_
       rotate_left
       ·show Act.put _ (some 46) _ = _
        simp only [Act.put, sA_, sB_, sC_, i64_w, i32_w]
        rfl
       refine pu_ 17 (some 47) L7_18 HT_ ?_
       refine pu_ 18 (some 48) L7_19 HT_ ?_
       refine pu_ 19 (some 49) L7_20 HT_ ?_
       refine pu_ 20 (some 4) L7_21 HT_ ?_
       refine done_ (done_of HT_.out (by kernel_rfl)) ?_
       try go_wp2
       go_ret
       exact ⟨by first | rfl | (simp <;> rfl) | (simp [*] <;> rfl), bq0_ HB.out⟩
      ·rw [if_neg c17] at H
       have c17b0 : (t698 == 0) = false := beq_eq_false_iff_ne.mpr c17
       have c17b1 : (t698 != 0) = true := bne_iff_ne.mpr c17
       obtain rfl := Option.some.inj H
       try go_wp2_with (first | ((with_reducible refine gate_callee (f := 10) rfl ?_); refine gL_ (some 22) Try.func10 #[.slice A0 l0.length c0] ?_; (with_reducible refine (script_Write.calls kj3 _ _ l0 t693 t694 _ ?side1 ?side2 A13.out).mono ?_); (case side1 => exact mvC_ ((Kd.C_below HR0.out HB.out))); (case side2 => exact HC0.out); rintro e w26 ⟨v695, rfl, ho0, hb⟩; refine ⟨_, rfl, ?_⟩; have HO696 := Aside0.mk (Kd.R_lower ho0 (below_size (bq0_ HB.out))); replace HB := Aside0.mk (below_step (bq0_ HB.out) hb); (try clear hb); (try clear ho0)) | ((with_reducible refine gate_callee (f := 10) rfl ?_); refine gL_ (some 27) Try.func10 #[.slice A1 l1.length c1] ?_; (with_reducible refine (script_Write.calls kj3 _ _ l1 t697 t698 _ ?side1 ?side2 A14.out).mono ?_); (case side1 => exact mvC_ ((Kd.C_below HR1.out HB.out))); (case side2 => exact HC1.out); rintro e w27 ⟨v699, rfl, ho0, hb⟩; refine ⟨_, rfl, ?_⟩; have HO700 := Aside0.mk (Kd.R_lower ho0 (below_size (bq0_ HB.out))); replace HO696 := mbR_ HO696.out hb; replace HB := Aside0.mk (below_step (bq0_ HB.out) hb); (try clear hb); (try clear ho0)))
       replace HO696 := Aside0.mk (Kd.R_drew HO696.out)
       replace HO700 := Aside0.mk (Kd.R_drew HO700.out)
       replace HB := Aside0.mk (below_drew1 HB.out)
       refine start_ (n := 21) (S := fun w' => True) (ds := []) L7_0 (by kernel_rfl) rfl rfl trivial (fun hHeld => ?_); refine with_tabW fullerlaw23_ScriptApart.tab6 fullerlaw23_ScriptApart.bits6 (fun HT_ HW_ => ?_)
       generalize w27.drew = w28 at HO696 HO700 HB hHeld ⊢
       refine pu_ 0 (some 30) L7_1 HT_ ?_
       refine pu_ 1 (some 31) L7_2 HT_ ?_
       refine pu_ 2 (some 32) L7_3 HT_ ?_
       refine pu_ 3 (some 33) L7_4 HT_ ?_
       refine pu_ 4 (some 34) L7_5 HT_ ?_
       refine pu_ 5 (some 35) L7_6 HT_ ?_
       refine pu_ 6 (some 36) L7_7 HT_ ?_
       refine pu_ 7 (some 37) L7_8 HT_ ?_
       refine pu_ 8 (some 38) L7_9 HT_ ?_
       refine skips_ (fuel := 3) (m := 12) HT_.out (fun _ _ _ _ _ h => h) [(9, 39), (10, 40), (11, 41), (12, 42), (13, 43), (14, 44), (15, 45), (16, 46), (17, 47)] L7_18 rfl (by kernel_rfl) (by kernel_rfl) (a' := ?_) ?_ ?_
       rotate_left
       ·simp only [putU, Act.put, sA_, sB_, sC_]
        rfl
       refine pu_ 18 (some 48) L7_19 HT_ ?_
       refine pu_ 19 (some 49) L7_20 HT_ ?_
       refine pu_ 20 (some 4) L7_21 HT_ ?_
       refine done_ (done_of HT_.out (by kernel_rfl)) ?_
       try go_wp2
       go_ret
       exact ⟨by first | rfl | (simp <;> rfl) | (simp [*] <;> rfl), bq0_ HB.out⟩
     ·rw [if_neg c16] at H
      have c16b0 : (t694 == 0) = false := beq_eq_false_iff_ne.mpr c16
      have c16b1 : (t694 != 0) = true := bne_iff_ne.mpr c16
      obtain rfl := Option.some.inj H
      try go_wp2_with (first | ((with_reducible refine gate_callee (f := 10) rfl ?_); refine gL_ (some 22) Try.func10 #[.slice A0 l0.length c0] ?_; (with_reducible refine (script_Write.calls kj3 _ _ l0 t693 t694 _ ?side1 ?side2 A13.out).mono ?_); (case side1 => exact mvC_ ((Kd.C_below HR0.out HB.out))); (case side2 => exact HC0.out); rintro e w29 ⟨v695, rfl, ho0, hb⟩; refine ⟨_, rfl, ?_⟩; have HO696 := Aside0.mk (Kd.R_lower ho0 (below_size (bq0_ HB.out))); replace HB := Aside0.mk (below_step (bq0_ HB.out) hb); (try clear hb); (try clear ho0)) | ((with_reducible refine gate_callee (f := 10) rfl ?_); refine gL_ (some 27) Try.func10 #[.slice A1 l1.length c1] ?_; (with_reducible refine (script_Write.calls kj3 _ _ l1 t697 t698 _ ?side1 ?side2 A14.out).mono ?_); (case side1 => exact mvC_ ((Kd.C_below HR1.out HB.out))); (case side2 => exact HC1.out); rintro e w30 ⟨v699, rfl, ho0, hb⟩; refine ⟨_, rfl, ?_⟩; have HO700 := Aside0.mk (Kd.R_lower ho0 (below_size (bq0_ HB.out))); replace HO696 := mbR_ HO696.out hb; replace HB := Aside0.mk (below_step (bq0_ HB.out) hb); (try clear hb); (try clear ho0)))
      replace HO696 := Aside0.mk (Kd.R_drew HO696.out)
      replace HO700 := Aside0.mk (Kd.R_drew HO700.out)
      replace HB := Aside0.mk (below_drew1 HB.out)
      refine start_ (n := 21) (S := fun w' => True) (ds := []) L7_0 (by kernel_rfl) rfl rfl trivial (fun hHeld => ?_); refine with_tabW fullerlaw23_ScriptApart.tab6 fullerlaw23_ScriptApart.bits6 (fun HT_ HW_ => ?_)
      generalize w30.drew = w31 at HO696 HO700 HB hHeld ⊢
      refine pu_ 0 (some 30) L7_1 HT_ ?_
      refine pu_ 1 (some 31) L7_2 HT_ ?_
      refine pu_ 2 (some 32) L7_3 HT_ ?_
      refine pu_ 3 (some 33) L7_4 HT_ ?_
      refine pu_ 4 (some 34) L7_5 HT_ ?_
      refine skips_ (fuel := 14) (m := 16) HT_.out (fun _ _ _ _ _ h => h) [(5, 35), (6, 36)] L7_7 rfl (by kernel_rfl) (by kernel_rfl) (a' := ?_) ?_ ?_
      rotate_left
      ·simp only [putU, Act.put, sA_, sB_, sC_]
       rfl
      refine pu_ 7 (some 37) L7_8 HT_ ?_
      refine pu_ 8 (some 38) L7_9 HT_ ?_
      refine skips_ (fuel := 3) (m := 12) HT_.out (fun _ _ _ _ _ h => h) [(9, 39), (10, 40), (11, 41), (12, 42), (13, 43), (14, 44), (15, 45), (16, 46), (17, 47)] L7_18 rfl (by kernel_rfl) (by kernel_rfl) (a' := ?_) ?_ ?_
      rotate_left
      ·simp only [putU, Act.put, sA_, sB_, sC_]
       rfl
      refine pu_ 18 (some 48) L7_19 HT_ ?_
      refine pu_ 19 (some 49) L7_20 HT_ ?_
      refine pu_ 20 (some 4) L7_21 HT_ ?_
      refine done_ (done_of HT_.out (by kernel_rfl)) ?_
      try go_wp2
      go_ret
      exact ⟨by first | rfl | (simp <;> rfl) | (simp [*] <;> rfl), bq0_ HB.out⟩
    ·replace c15 := Bool.eq_false_iff.mpr c15
     subst c15
     have H1 : (some false) = some r := by rw [if_neg (show ¬ (false = true) by decide)] at H; exact H
     clear H
     have H := H1
     clear H1
     obtain rfl := Option.some.inj H
     try go_wp2_with (first | ((with_reducible refine gate_callee (f := 10) rfl ?_); refine gL_ (some 22) Try.func10 #[.slice A0 l0.length c0] ?_; (with_reducible refine (script_Write.calls kj3 _ _ l0 t693 t694 _ ?side1 ?side2 A13.out).mono ?_); (case side1 => exact mvC_ ((Kd.C_below HR0.out HB.out))); (case side2 => exact HC0.out); rintro e w32 ⟨v695, rfl, ho0, hb⟩; refine ⟨_, rfl, ?_⟩; have HO696 := Aside0.mk (Kd.R_lower ho0 (below_size (bq0_ HB.out))); replace HB := Aside0.mk (below_step (bq0_ HB.out) hb); (try clear hb); (try clear ho0)) | ((with_reducible refine gate_callee (f := 10) rfl ?_); refine gL_ (some 27) Try.func10 #[.slice A1 l1.length c1] ?_; (with_reducible refine (script_Write.calls kj3 _ _ l1 t697 t698 _ ?side1 ?side2 A14.out).mono ?_); (case side1 => exact mvC_ ((Kd.C_below HR1.out HB.out))); (case side2 => exact HC1.out); rintro e w33 ⟨v699, rfl, ho0, hb⟩; refine ⟨_, rfl, ?_⟩; have HO700 := Aside0.mk (Kd.R_lower ho0 (below_size (bq0_ HB.out))); replace HO696 := mbR_ HO696.out hb; replace HB := Aside0.mk (below_step (bq0_ HB.out) hb); (try clear hb); (try clear ho0)))
     replace HO696 := Aside0.mk (Kd.R_drew HO696.out)
     replace HO700 := Aside0.mk (Kd.R_drew HO700.out)
     replace HB := Aside0.mk (below_drew1 HB.out)
     refine start_ (n := 21) (S := fun w' => True) (ds := []) L7_0 (by kernel_rfl) rfl rfl trivial (fun hHeld => ?_); refine with_tabW fullerlaw23_ScriptApart.tab6 fullerlaw23_ScriptApart.bits6 (fun HT_ HW_ => ?_)
     generalize w33.drew = w34 at HO696 HO700 HB hHeld ⊢
     refine pu_ 0 (some 30) L7_1 HT_ ?_
     refine pu_ 1 (some 31) L7_2 HT_ ?_
     refine skips_ (fuel := 2) (m := 19) HT_.out (fun _ _ _ _ _ h => h) [(2, 32), (3, 33), (4, 34), (5, 35), (6, 36), (7, 37), (8, 38), (9, 39), (10, 40), (11, 41), (12, 42), (13, 43), (14, 44), (15, 45), (16, 46), (17, 47), (18, 48)] L7_19 rfl (by kernel_rfl) (by kernel_rfl) (a' := ?_) ?_ ?_
     rotate_left
     ·simp only [putU, Act.put, sA_, sB_, sC_]
      rfl
     refine pu_ 19 (some 49) L7_20 HT_ ?_
     refine pu_ 20 (some 4) L7_21 HT_ ?_
     refine done_ (done_of HT_.out (by kernel_rfl)) ?_
     try go_wp2
     go_ret
     exact ⟨by first | rfl | (simp <;> rfl) | (simp [*] <;> rfl), bq0_ HB.out⟩

/-- THE ONE PURE STATEMENT of fullerlaw23_ScriptApart: yours. -/
def fullerlaw23_ScriptApart.Pure : Prop := ∀ (l0 : List (S30)) (l1 : List (S30)), (l0.length * 136 ≤ 140737488351232 ∧ ∀ x_ ∈ l0, OK30 x_) → (l1.length * 136 ≤ 140737488351232 ∧ ∀ x_ ∈ l1, OK30 x_) → ∃ k, fullerlaw23_ScriptApart.f k l0 l1 = some true
theorem fullerlaw23_ScriptApart.walk (P : fullerlaw23_ScriptApart.Pure) (A0 : Option Addr) (c0 : Nat) (l0 : List (S30)) (A1 : Option Addr) (c1 : Nat) (l1 : List (S30)) (w : World) (hr0 : Kd.C k30 w A0 l0.length l0) (hc0 : l0.length ≤ c0) (hr1 : Kd.C k30 w A1 l1.length l1) (hc1 : l1.length ≤ c1) (hg0 : l0.length * 136 ≤ 140737488351232 ∧ ∀ x_ ∈ l0, OK30 x_) (hg1 : l1.length * 136 ≤ 140737488351232 ∧ ∀ x_ ∈ l1, OK30 x_) :
  Calls Try.prog 7 #[.slice A0 l0.length c0, .slice A1 l1.length c1] w fun e w' => e = .returned (.bool true) ∧ Below w.heap.size w w' := by
 obtain ⟨k, h⟩ := P l0 l1 hg0 hg1
 refine (fullerlaw23_ScriptApart.calls k _ _ l0 _ _ l1 true w hr0 hc0 hr1 hc1 h).mono ?_
 rintro e w' ⟨rfl, hd⟩
 exact ⟨rfl, hd⟩

end Go.Proofs.Ytjcgadfmhfhbgaa.A
