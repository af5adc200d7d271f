/- Lean functions that answer as the Go functions do, and the proofs that they do; no conditions. Written by this session's own driver: a scratch copy of the kit's print with the session's additions (wip/xprint). -/
import Derived.Test.YtjcgadfmhfhbgaaAx0
import Derived.Test.YtjcgadfmhfhbgaaAx7
import Derived.Test.YtjcgadfmhfhbgaaAx10
import Derived.Test.YtjcgadfmhfhbgaaAx15
namespace Go.Proofs.Ytjcgadfmhfhbgaa.A
open Go.RowKit Go.Proofs.YtjcgadfmhfhbgaaW.PrintWords Go.Proofs.YtjcgadfmhfhbgaaW.PrintLast Go.Proofs.YtjcgadfmhfhbgaaW.PrintMore
attribute [local go_sem] max2_int min2_int max_two min_two max_three min_three max_four min_four
set_option linter.unusedVariables false
set_option linter.unusedSimpArgs false
mutual
def fullerlaw23_ScriptJoins.j0 : Nat → List (S30) → List (S30) → Int → Bool → Bool → Option (Bool)
 | 0, _, _, _, _, _ => none
 | k + 1, x0, x1, x2, x7, x27 => if x27 = true then (some x7) else ((script_Write.f k x0).bind fun bt623 => ((script_Write.f k x1).bind fun bt627 => ((some (([] : List (S30)) : List (S30))).bind fun y631 => (if y631.length + x0.length < 1034834473200 then ((some (y631 ++ x0 : List (S30))).bind fun y634 => (if y634.length + x1.length < 1034834473200 then ((script_Write.f k (y634 ++ x1)).bind fun bt640 => (if bt623.2 = 0 then (fullerlaw23_ScriptJoins.j1 k x0 x2 x7 bt623.1 bt627.1 bt640.1 bt640.2 (bt627.2 != 0)) else (fullerlaw23_ScriptJoins.j1 k x0 x2 x7 bt623.1 bt627.1 bt640.1 bt640.2 true))) else (none))) else (none)))))
def fullerlaw23_ScriptJoins.j1 : Nat → List (S30) → Int → Bool → List Int → List Int → List Int → Int → Bool → Option (Bool)
 | 0, _, _, _, _, _, _, _, _ => none
 | k + 1, x0, x2, x7, x8, x10, x12, x13, x53 => if x53 = true then (if x7 = true then (some (x13 == 230)) else (some false)) else (if (x0.length : Int) = 0 then (fullerlaw23_ScriptJoins.j2 k x0 x2 x7 x8 x10 x12 x13 true) else (fullerlaw23_ScriptJoins.j2 k x0 x2 x7 x8 x10 x12 x13 ((x8.length : Int) == 0)))
def fullerlaw23_ScriptJoins.j2 : Nat → List (S30) → Int → Bool → List Int → List Int → List Int → Int → Bool → Option (Bool)
 | 0, _, _, _, _, _, _, _, _ => none
 | k + 1, x0, x2, x7, x8, x10, x12, x13, x66 => if x66 = true then (if x7 = true then (if x13 = 0 then (if (strOfNums x12).toList = (strOfNums x10).toList then (some ((x0.length : Int) == (x8.length : Int))) else (some false)) else (some false)) else (some false)) else (if 1 ≤ (x0.length : Int) then ((script_Write.f k (x0.take 1)).bind fun bt649 => (if bt649.2 = 0 then (if (bt649.1.length : Int) = 0 then (some false) else (if 0 ≤ (Int.tmod (wrap64 (x2)) (bt649.1.length : Int)) then (if (Int.tmod (wrap64 (x2)) (bt649.1.length : Int)) ≤ (bt649.1.length : Int) then ((script_Read.f k (bt649.1.take ((Int.tmod (wrap64 (x2)) (bt649.1.length : Int)) : Int).toNat)).bind fun bt658 => (if x7 = true then (if x13 = 0 then (if (strOfNums x8).size + (strOfNums x10).size ≤ 9223372036854775807 then (if (strOfNums x12).toList = ((strOfNums x8) ++ (strOfNums x10)).toList then (if (Int.tmod (wrap64 (x2)) (bt649.1.length : Int)) = 0 then (if bt658.2 = 0 then (some true) else (if (Int.tmod (wrap64 (x2)) (bt649.1.length : Int)) > 0 then (some (bt658.2 == 230)) else (some false))) else (if (Int.tmod (wrap64 (x2)) (bt649.1.length : Int)) > 0 then (some (bt658.2 == 230)) else (some false))) else (some false)) else (none)) else (some false)) else (some false))) else (none)) else (none))) else (some false))) else (none))
end
def fullerlaw23_ScriptJoins.f (k : Nat) (l0 : List (S30)) (l1 : List (S30)) (a2 : Int) : Option (Bool) := (fullerlaw23_awake.f k).bind fun t620 => ((fullerref21_Cmds.f k l0 100).bind fun t621 => (if t621 = true then ((fullerref21_Cmds.f k l1 100).bind fun t622 => (fullerlaw23_ScriptJoins.j0 k l0 l1 a2 t620 (!t622))) else (fullerlaw23_ScriptJoins.j0 k l0 l1 a2 t620 true)))
set_option maxHeartbeats 8000000 in
set_option maxRecDepth 100000 in
theorem fullerlaw23_ScriptJoins.calls (k : Nat) (P0_ : Nat → Prop) (A0 : Option Addr) (c0 : Nat) (l0 : List (S30)) (P1_ : Nat → Prop) (A1 : Option Addr) (c1 : Nat) (l1 : List (S30)) (a2 : Int) (r : Bool) (w : World) (hs0 : Kd.V k30 30 w w.heap.size (fun k_ => P0_ k_) (.slice A0 l0.length c0) l0) (hs1 : Kd.V k30 30 w w.heap.size (fun k_ => P1_ k_) (.slice A1 l1.length c1) l1) (h : fullerlaw23_ScriptJoins.f k l0 l1 a2 = some r) :
  Calls Try.prog 5 #[.slice A0 l0.length c0, .slice A1 l1.length c1, .int .u16 a2] w fun e w' => e = .returned (.bool r) ∧ Below w.heap.size w w' := by
 have HO0 := Aside0.mk (show Kd.V k30 30 w w.heap.size (fun k_ => ((P0_ k_ ∨ P1_ k_) ∨ w.heap.size ≤ k_)) (.slice A0 l0.length c0) l0 from Kd.V_mono hs0 (fun k_ hk => .inl (.inl hk)))
 have HO1 := Aside0.mk (show Kd.V k30 30 w w.heap.size (fun k_ => ((P0_ k_ ∨ P1_ k_) ∨ w.heap.size ≤ k_)) (.slice A1 l1.length c1) l1 from Kd.V_mono hs1 (fun k_ hk => .inl (.inr hk)))
 have HB := Aside0.mk (Below.refl w.heap.size w)
 have H : ((fullerlaw23_awake.f k).bind fun t620 => ((fullerref21_Cmds.f k l0 100).bind fun t621 => (if t621 = true then ((fullerref21_Cmds.f k l1 100).bind fun t622 => (fullerlaw23_ScriptJoins.j0 k l0 l1 a2 t620 (!t622))) else (fullerlaw23_ScriptJoins.j0 k l0 l1 a2 t620 true)))) = some r := h
 clear h
 replace H := Option.bind_eq_some_iff.mp H
 obtain ⟨t620, A40, H⟩ := H
 replace H : ((fullerref21_Cmds.f k l0 100).bind fun t621 => (if t621 = true then ((fullerref21_Cmds.f k l1 100).bind fun t622 => (fullerlaw23_ScriptJoins.j0 k l0 l1 a2 t620 (!t622))) else (fullerlaw23_ScriptJoins.j0 k l0 l1 a2 t620 true))) = some r := H
 have A4 := Aside0.mk A40
 clear A40
 have HC5 := Aside0.mk H
 clear H
 go_enter Try.func5, Try.ntmps5
 go_upto_region 2 with (first | ((with_reducible refine gate_callee (f := 8) rfl ?_); refine gL_ (some 19) Try.func8 #[] ?_; (with_reducible refine (fullerlaw23_awake.calls k  t620 _ A4.out).mono ?_); rintro e w6 ⟨rfl, hb⟩; refine ⟨_, rfl, ?_⟩; replace HO0 := mbV_ HO0.out hb; replace HO1 := mbV_ HO1.out hb; replace HB := Aside0.mk (below_step (bq0_ HB.out) hb); (try clear hb)))
 (try simp only [Act.put, sA_, sB_, sC_])
 go_cut [27] (fun v27 wc => ∃ (kq : Nat) (x27_4 : Bool), v27 = .bool x27_4 ∧ Aside0 (fullerlaw23_ScriptJoins.j0 kq l0 l1 a2 t620 x27_4 = some r) ∧ Aside0 (kq ≤ k) ∧ Aside0 (Kd.V k30 30 wc w.heap.size (fun k_ => ((P0_ k_ ∨ P1_ k_) ∨ w.heap.size ≤ k_)) (.slice A0 l0.length c0) l0) ∧ Aside0 (Kd.V k30 30 wc w.heap.size (fun k_ => ((P0_ k_ ∨ P1_ k_) ∨ w.heap.size ≤ k_)) (.slice A1 l1.length c1) l1) ∧ Aside0 (Below w.heap.size w wc))
 case first =>
  have H := HC5.out
  clear HC5
  replace H := Option.bind_eq_some_iff.mp H
  obtain ⟨t621, A70, H⟩ := H
  replace H : (if t621 = true then ((fullerref21_Cmds.f k l1 100).bind fun t622 => (fullerlaw23_ScriptJoins.j0 k l0 l1 a2 t620 (!t622))) else (fullerlaw23_ScriptJoins.j0 k l0 l1 a2 t620 true)) = some r := H
  have A7 := Aside0.mk A70
  clear A70
  by_cases c8 : t621 = true
  ·subst c8
   have H1 : ((fullerref21_Cmds.f k l1 100).bind fun t622 => (fullerlaw23_ScriptJoins.j0 k l0 l1 a2 t620 (!t622))) = some r := by rw [if_pos rfl] at H; exact H
   clear H
   have H := H1
   clear H1
   replace H := Option.bind_eq_some_iff.mp H
   obtain ⟨t622, A90, H⟩ := H
   replace H : (fullerlaw23_ScriptJoins.j0 k l0 l1 a2 t620 (!t622)) = some r := H
   have A9 := Aside0.mk A90
   clear A90
   have H' := Aside0.mk H
   clear H
   go_wp2_with (first | ((with_reducible refine gate_callee (f := 9) rfl ?_); refine gL_ (some 21) Try.func9 #[.slice A0 l0.length c0, .int .i64 100] ?_; (with_reducible refine (fullerref21_Cmds.calls k _ _ l0 100 true _ ?side1 ?side2 A7.out).mono ?_); (case side1 => exact mvC_ ((Kd.V_reads' HO0.out).2.2)); (case side2 => exact (Kd.V_reads' HO0.out).2.1); rintro e w10 ⟨rfl, hb⟩; refine ⟨_, rfl, ?_⟩; replace HO0 := mbV_ HO0.out hb; replace HO1 := mbV_ HO1.out hb; replace HB := Aside0.mk (below_step (bq0_ HB.out) hb); (try clear hb)) | (go_at_call 9; (with_reducible refine (fullerref21_Cmds.calls k _ _ l1 100 t622 _ ?side1 ?side2 A9.out).mono ?_); (case side1 => exact mvC_ ((Kd.V_reads' HO1.out).2.2)); (case side2 => exact (Kd.V_reads' HO1.out).2.1); rintro e w11 ⟨rfl, hb⟩; replace HO0 := mbV_ HO0.out hb; replace HO1 := mbV_ HO1.out hb; replace HB := Aside0.mk (below_step (bq0_ HB.out) hb); (try clear hb)))
   go_meet
   case rel => exact ⟨_, (!t622), (by first | rfl | (simp; done) | (simp [*]; done)), H', ⟨by first | omega | exact Nat.le_refl _⟩, ⟨mvV_ HO0.out⟩, ⟨mvV_ HO1.out⟩, ⟨bq0_ HB.out⟩⟩
  ·replace c8 := Bool.eq_false_iff.mpr c8
   subst c8
   have H1 : (fullerlaw23_ScriptJoins.j0 k l0 l1 a2 t620 true) = some r := by rw [if_neg (show ¬ (false = true) by decide)] at H; exact H
   clear H
   have H := H1
   clear H1
   have H' := Aside0.mk H
   clear H
   go_wp2_with (first | ((with_reducible refine gate_callee (f := 9) rfl ?_); refine gL_ (some 21) Try.func9 #[.slice A0 l0.length c0, .int .i64 100] ?_; (with_reducible refine (fullerref21_Cmds.calls k _ _ l0 100 false _ ?side1 ?side2 A7.out).mono ?_); (case side1 => exact mvC_ ((Kd.V_reads' HO0.out).2.2)); (case side2 => exact (Kd.V_reads' HO0.out).2.1); rintro e w12 ⟨rfl, hb⟩; refine ⟨_, rfl, ?_⟩; replace HO0 := mbV_ HO0.out hb; replace HO1 := mbV_ HO1.out hb; replace HB := Aside0.mk (below_step (bq0_ HB.out) hb); (try clear hb)))
   go_meet
   case rel => exact ⟨_, (true), (by first | rfl | (simp; done) | (simp [*]; done)), H', ⟨by first | omega | exact Nat.le_refl _⟩, ⟨mvV_ HO0.out⟩, ⟨mvV_ HO1.out⟩, ⟨bq0_ HB.out⟩⟩
 case rest =>
  clear HC5
  try clear c1
  try clear p2
  try clear c5
  try clear c8
  try clear c9
  obtain ⟨kq, x27_4, rfl, HA, HJ4, HO_0, HO_1, HB⟩ := hcut
  cases kq with
  | zero => exact absurd HA.out (by simp [fullerlaw23_ScriptJoins.j0])
  | succ kj4 =>
   have H := HA.out
   clear HA
   simp only [fullerlaw23_ScriptJoins.j0] at H
   by_cases c13 : x27_4 = true
   ·subst c13
    have H1 : (some t620) = some r := by rw [if_pos rfl] at H; exact H
    clear H
    have H := H1
    clear H1
    obtain rfl := Option.some.inj H
    go_wp2
    go_ret
    exact ⟨by first | rfl | (simp <;> rfl) | (simp [*] <;> rfl), bq0_ HB.out⟩
   ·replace c13 := Bool.eq_false_iff.mpr c13
    subst c13
    have H1 : ((script_Write.f kj4 l0).bind fun bt623 => ((script_Write.f kj4 l1).bind fun bt627 => ((some (([] : List (S30)) : List (S30))).bind fun y631 => (if y631.length + l0.length < 1034834473200 then ((some (y631 ++ l0 : List (S30))).bind fun y634 => (if y634.length + l1.length < 1034834473200 then ((script_Write.f kj4 (y634 ++ l1)).bind fun bt640 => (if bt623.2 = 0 then (fullerlaw23_ScriptJoins.j1 kj4 l0 a2 t620 bt623.1 bt627.1 bt640.1 bt640.2 (bt627.2 != 0)) else (fullerlaw23_ScriptJoins.j1 kj4 l0 a2 t620 bt623.1 bt627.1 bt640.1 bt640.2 true))) else (none))) else (none))))) = some r := by rw [if_neg (show ¬ (false = true) by decide)] at H; exact H
    clear H
    have H := H1
    clear H1
    replace H := Option.bind_eq_some_iff.mp H
    obtain ⟨⟨t623, t624⟩, A140, H⟩ := H
    replace H : ((script_Write.f kj4 l1).bind fun bt627 => ((some (([] : List (S30)) : List (S30))).bind fun y631 => (if y631.length + l0.length < 1034834473200 then ((some (y631 ++ l0 : List (S30))).bind fun y634 => (if y634.length + l1.length < 1034834473200 then ((script_Write.f kj4 (y634 ++ l1)).bind fun bt640 => (if t624 = 0 then (fullerlaw23_ScriptJoins.j1 kj4 l0 a2 t620 t623 bt627.1 bt640.1 bt640.2 (bt627.2 != 0)) else (fullerlaw23_ScriptJoins.j1 kj4 l0 a2 t620 t623 bt627.1 bt640.1 bt640.2 true))) else (none))) else (none)))) = some r := H
    have A14 := Aside0.mk A140
    clear A140
    replace H := Option.bind_eq_some_iff.mp H
    obtain ⟨⟨t627, t628⟩, A150, H⟩ := H
    replace H : ((some (([] : List (S30)) : List (S30))).bind fun y631 => (if y631.length + l0.length < 1034834473200 then ((some (y631 ++ l0 : List (S30))).bind fun y634 => (if y634.length + l1.length < 1034834473200 then ((script_Write.f kj4 (y634 ++ l1)).bind fun bt640 => (if t624 = 0 then (fullerlaw23_ScriptJoins.j1 kj4 l0 a2 t620 t623 t627 bt640.1 bt640.2 (t628 != 0)) else (fullerlaw23_ScriptJoins.j1 kj4 l0 a2 t620 t623 t627 bt640.1 bt640.2 true))) else (none))) else (none))) = some r := H
    have A15 := Aside0.mk A150
    clear A150
    obtain ⟨y631, hy631⟩ : ∃ y_ : List (S30), y_ = (([] : List (S30))) := ⟨_, rfl⟩
    replace H : (if y631.length + l0.length < 1034834473200 then ((some (y631 ++ l0 : List (S30))).bind fun y634 => (if y634.length + l1.length < 1034834473200 then ((script_Write.f kj4 (y634 ++ l1)).bind fun bt640 => (if t624 = 0 then (fullerlaw23_ScriptJoins.j1 kj4 l0 a2 t620 t623 t627 bt640.1 bt640.2 (t628 != 0)) else (fullerlaw23_ScriptJoins.j1 kj4 l0 a2 t620 t623 t627 bt640.1 bt640.2 true))) else (none))) else (none)) = some r := by first | (rw [hy631]; with_reducible exact H) | (have H2_ := (Option.bind_some _ _).symm.trans H; rw [hy631]; with_reducible exact H2_) | (have H2_ := (Option.bind_some _ _).symm.trans H; with_reducible exact H2_) | with_reducible exact H | (rw [hy631]; exact H) | exact H
    have Ny631 := Aside0.mk hy631
    clear hy631
    by_cases c16 : y631.length + l0.length < 1034834473200
    ·rw [if_pos c16] at H
     have LMc16 := Aside0.mk c16
     clear c16
     obtain ⟨y634, hy634⟩ : ∃ y_ : List (S30), y_ = (y631 ++ l0) := ⟨_, rfl⟩
     replace H : (if y634.length + l1.length < 1034834473200 then ((script_Write.f kj4 (y634 ++ l1)).bind fun bt640 => (if t624 = 0 then (fullerlaw23_ScriptJoins.j1 kj4 l0 a2 t620 t623 t627 bt640.1 bt640.2 (t628 != 0)) else (fullerlaw23_ScriptJoins.j1 kj4 l0 a2 t620 t623 t627 bt640.1 bt640.2 true))) else (none)) = some r := by first | (rw [hy634]; with_reducible exact H) | (have H2_ := (Option.bind_some _ _).symm.trans H; rw [hy634]; with_reducible exact H2_) | (have H2_ := (Option.bind_some _ _).symm.trans H; with_reducible exact H2_) | with_reducible exact H | (rw [hy634]; exact H) | exact H
     have Ny634 := Aside0.mk hy634
     clear hy634
     by_cases c17 : y634.length + l1.length < 1034834473200
     ·rw [if_pos c17] at H
      have LMc17 := Aside0.mk c17
      clear c17
      obtain ⟨y637, hy637⟩ : ∃ y_ : List (S30), y_ = (y634 ++ l1) := ⟨_, rfl⟩
      replace H : ((script_Write.f kj4 y637).bind fun bt640 => (if t624 = 0 then (fullerlaw23_ScriptJoins.j1 kj4 l0 a2 t620 t623 t627 bt640.1 bt640.2 (t628 != 0)) else (fullerlaw23_ScriptJoins.j1 kj4 l0 a2 t620 t623 t627 bt640.1 bt640.2 true))) = some r := by first | (rw [hy637]; with_reducible exact H) | (have H2_ := (Option.bind_some _ _).symm.trans H; rw [hy637]; with_reducible exact H2_) | (have H2_ := (Option.bind_some _ _).symm.trans H; with_reducible exact H2_) | with_reducible exact H | (rw [hy637]; exact H) | exact H
      have Ny637 := Aside0.mk hy637
      clear hy637
      replace H := Option.bind_eq_some_iff.mp H
      obtain ⟨⟨t640, t641⟩, A180, H⟩ := H
      replace H : (if t624 = 0 then (fullerlaw23_ScriptJoins.j1 kj4 l0 a2 t620 t623 t627 t640 t641 (t628 != 0)) else (fullerlaw23_ScriptJoins.j1 kj4 l0 a2 t620 t623 t627 t640 t641 true)) = some r := H
      have A18 := Aside0.mk A180
      clear A180
      have HC19 := Aside0.mk H
      clear H
      go_upto_region 7 with (first | ((with_reducible refine gate_callee (f := 10) rfl ?_); refine gL_ (some 31) Try.func10 #[.slice A0 l0.length c0] ?_; (with_reducible refine (script_Write.calls kj4 _ _ l0 t623 t624 _ ?side1 ?side2 A14.out).mono ?_); (case side1 => exact mvC_ ((Kd.V_reads' HO_0.out).2.2)); (case side2 => exact (Kd.V_reads' HO_0.out).2.1); rintro e w20 ⟨v625, rfl, ho0, hb⟩; refine ⟨_, rfl, ?_⟩; have HO626 := Aside0.mk (Kd.R_lower (Kd.R_newM (M := fun k_ => (w.heap.size ≤ k_)) ho0 (below_size (bq0_ HB.out)) (fun k_ h_ => h_)) (below_size (bq0_ HB.out))); replace HO_0 := Aside0.mk (Kd.V_elder' (mvV_ HO_0.out) (Kd.R_base ho0) hb); replace HO_1 := Aside0.mk (Kd.V_elder' (mvV_ HO_1.out) (Kd.R_base ho0) hb); replace HB := Aside0.mk (below_step (bq0_ HB.out) hb); (try clear hb); (try clear ho0)) | ((with_reducible refine gate_callee (f := 10) rfl ?_); refine gL_ (some 36) Try.func10 #[.slice A1 l1.length c1] ?_; (with_reducible refine (script_Write.calls kj4 _ _ l1 t627 t628 _ ?side1 ?side2 A15.out).mono ?_); (case side1 => exact mvC_ ((Kd.V_reads' HO_1.out).2.2)); (case side2 => exact (Kd.V_reads' HO_1.out).2.1); rintro e w21 ⟨v629, rfl, ho0, hb⟩; refine ⟨_, rfl, ?_⟩; have HO630 := Aside0.mk (Kd.R_lower (Kd.R_new' (Kd.R_newM (M := fun k_ => (w.heap.size ≤ k_)) ho0 (below_size (bq0_ HB.out)) (fun k_ h_ => h_)) (Kd.R_lt (mvR_ HO626.out))) (below_size (bq0_ HB.out))); replace HO_0 := Aside0.mk (Kd.V_elder' (mvV_ HO_0.out) (Kd.R_base ho0) hb); replace HO_1 := Aside0.mk (Kd.V_elder' (mvV_ HO_1.out) (Kd.R_base ho0) hb); replace HO626 := Aside0.mk (Kd.R_elder' (mvR_ HO626.out) (Kd.R_base ho0) hb); replace HB := Aside0.mk (below_step (bq0_ HB.out) hb); (try clear hb); (try clear ho0)) | ((with_reducible refine gate_dst (N := 40) rfl ?_); (try (refine gate_guard (by rfl) ?_; dsimp only)); refine Kd.N_lit k30 _ 30 ?hg (N' := 40) ?hd (xs := ([] : List (S30))) (inner := []) (ok := (fun k_ => ((P0_ k_ ∨ P1_ k_) ∨ w.heap.size ≤ k_) ∧ some k_ ≠ (v625 : Value).ownBlock ∧ some k_ ≠ (v629 : Value).ownBlock)) (okp := (fun k_ => ((P0_ k_ ∨ P1_ k_) ∨ w.heap.size ≤ k_) ∧ some k_ ≠ (v625 : Value).ownBlock ∧ some k_ ≠ (v629 : Value).ownBlock)) ?hr ?hp (fun _ hk => hk) ((show ∀ k_, w21.heap.size ≤ k_ → (fun k_ => ((P0_ k_ ∨ P1_ k_) ∨ w.heap.size ≤ k_) ∧ some k_ ≠ (v625 : Value).ownBlock ∧ some k_ ≠ (v629 : Value).ownBlock) k_ from fun k_ hk => ⟨(.inr (Nat.le_trans (below_size (bq0_ HB.out)) hk)), Kd.fresh' (Kd.R_lt (mvR_ HO626.out)) k_ hk, Kd.fresh' (Kd.R_lt (mvR_ HO630.out)) k_ hk⟩) _ (Nat.le_refl _)) (Below.refl _ _) (Nat.le_refl _) (by simp) ?_; (case hd => rfl); (case hg => rfl); (case hr => first | (go_simp; done) | (go_simp; rfl)); (case hp => exact (Reps.none _ _)); intro v632 w22 ho23 hb hg_ hnew_; clear hg_ hnew_; (first | rw [← Ny631.out] at ho23 | (simp only [Int.reduceToNat] at ho23; rw [← Ny631.out] at ho23)); have HO633 := Aside0.mk (Kd.N_lower ho23 (below_size (bq0_ HB.out))); replace HO_0 := Aside0.mk (Kd.V_elder' (mvV_ HO_0.out) (Kd.N_base ho23) hb); replace HO_1 := Aside0.mk (Kd.V_elder' (mvV_ HO_1.out) (Kd.N_base ho23) hb); replace HO626 := mbR_ HO626.out hb; replace HO630 := mbR_ HO630.out hb; replace HB := Aside0.mk (below_step (bq0_ HB.out) hb); clear hb ho23) | ((with_reducible refine gate_builtin (b := .append) (xs := #[.tmp 40, .tmp 41]) rfl ?_); (try (refine gate_guard (by rfl) ?_; dsimp only)); at_builtin; refine Kd.N_append_rows k30 (w0 := w) w.heap.size rfl (.tmp 40) (.tmp 41) 22 30 (.agg #[(.int .i64 0), (.int .i64 0), (.slice none 0 0), (.slice none 0 0), (.slice none 0 0), (.int .i64 0), (.int .i64 0), (.int .i64 0), (.int .i64 0), (.int .i64 0), (.int .i64 0)]) 136 rfl Try.underlying22 info30 rfl (by decide) (by omega) v632 y631 l0 _ _ _ (fun k_ => ((P0_ k_ ∨ P1_ k_) ∨ w.heap.size ≤ k_) ∧ some k_ ≠ (v625 : Value).ownBlock ∧ some k_ ≠ (v629 : Value).ownBlock) (fun k_ => ((fun k_ => ((P0_ k_ ∨ P1_ k_) ∨ w.heap.size ≤ k_) ∧ some k_ ≠ (v625 : Value).ownBlock ∧ some k_ ≠ (v629 : Value).ownBlock)) k_ ∧ some k_ ≠ (v632 : Value).ownBlock) rfl rfl ?aO ?aR (fun _ hk => hk) ?aF ?aB ?aS ?aL ?_; (case aR => exact (by skip; exact Kd.V_F (Kd.V_mono (ok' := (fun k_ => ((fun k_ => ((P0_ k_ ∨ P1_ k_) ∨ w.heap.size ≤ k_) ∧ some k_ ≠ (v625 : Value).ownBlock ∧ some k_ ≠ (v629 : Value).ownBlock)) k_ ∧ some k_ ≠ (v632 : Value).ownBlock)) (HO_0.out) (fun k_ hk => ⟨⟨hk.1.1.1, ⟨hk.1.1.2, hk.1.2⟩⟩, hk.2⟩)))); (case aB => exact (bq0_ HB.out)); (case aF => exact (fun k_ hk => ⟨(.inr (Nat.le_trans (below_size (bq0_ HB.out)) hk)), Kd.fresh' (Kd.R_lt (mvR_ HO626.out)) k_ hk, Kd.fresh' (Kd.R_lt (mvR_ HO630.out)) k_ hk⟩)); (case aO => exact (mvN_ HO633.out)); (case aS => exact (below_size (bq0_ HB.out))); (case aL => have := LMc16.out; omega); intro v635 w24 ho hb hg hat; rw [← Ny634.out] at ho; have HO636 := Aside0.mk (ho); replace HO_0 := Aside0.mk (Kd.V_afterv (ok := (fun k_ => ((P0_ k_ ∨ P1_ k_) ∨ w.heap.size ≤ k_) ∧ some k_ ≠ (v625 : Value).ownBlock ∧ some k_ ≠ (v629 : Value).ownBlock)) (by (with_reducible repeat (first | apply Kd.V_alloc | apply Kd.V_drewN | apply Kd.V_drew)); exact Kd.V_mono HO_0.out (fun _ hk => ⟨⟨hk.1.1.1, ⟨hk.1.1.2, hk.1.2⟩⟩, hk.2⟩)) hg hat); replace HO_1 := Aside0.mk (Kd.V_afterv (ok := (fun k_ => ((P0_ k_ ∨ P1_ k_) ∨ w.heap.size ≤ k_) ∧ some k_ ≠ (v625 : Value).ownBlock ∧ some k_ ≠ (v629 : Value).ownBlock)) (by (with_reducible repeat (first | apply Kd.V_alloc | apply Kd.V_drewN | apply Kd.V_drew)); exact Kd.V_mono HO_1.out (fun _ hk => ⟨⟨hk.1.1.1, ⟨hk.1.1.2, hk.1.2⟩⟩, hk.2⟩)) hg hat); replace HO626 := Aside0.mk (Kd.R_over' (mvR_ HO626.out) (Kd.N_typed (mvN_ HO633.out)) (by decide) hg); replace HO630 := Aside0.mk (Kd.R_over' (mvR_ HO630.out) (Kd.N_typed (mvN_ HO633.out)) (by decide) hg); replace HB := Aside0.mk (hb); clear HO633 ho hb hg hat) | ((with_reducible refine gate_builtin (b := .append) (xs := #[.tmp 42, .tmp 43]) rfl ?_); (try (refine gate_guard (by rfl) ?_; dsimp only)); at_builtin; refine Kd.N_append_rows k30 (w0 := w) w.heap.size rfl (.tmp 42) (.tmp 43) 22 30 (.agg #[(.int .i64 0), (.int .i64 0), (.slice none 0 0), (.slice none 0 0), (.slice none 0 0), (.int .i64 0), (.int .i64 0), (.int .i64 0), (.int .i64 0), (.int .i64 0), (.int .i64 0)]) 136 rfl Try.underlying22 info30 rfl (by decide) (by omega) v635 y634 l1 _ _ _ (fun k_ => ((P0_ k_ ∨ P1_ k_) ∨ w.heap.size ≤ k_) ∧ some k_ ≠ (v625 : Value).ownBlock ∧ some k_ ≠ (v629 : Value).ownBlock) (fun k_ => ((fun k_ => ((P0_ k_ ∨ P1_ k_) ∨ w.heap.size ≤ k_) ∧ some k_ ≠ (v625 : Value).ownBlock ∧ some k_ ≠ (v629 : Value).ownBlock)) k_ ∧ some k_ ≠ (v635 : Value).ownBlock) rfl rfl ?aO ?aR (fun _ hk => hk) ?aF ?aB ?aS ?aL ?_; (case aR => exact (by skip; exact Kd.V_F (Kd.V_mono (ok' := (fun k_ => ((fun k_ => ((P0_ k_ ∨ P1_ k_) ∨ w.heap.size ≤ k_) ∧ some k_ ≠ (v625 : Value).ownBlock ∧ some k_ ≠ (v629 : Value).ownBlock)) k_ ∧ some k_ ≠ (v635 : Value).ownBlock)) (HO_1.out) (fun k_ hk => ⟨⟨hk.1.1, ⟨hk.1.2.1, hk.1.2.2⟩⟩, hk.2⟩)))); (case aB => exact (bq0_ HB.out)); (case aF => exact (fun k_ hk => ⟨(.inr (Nat.le_trans (below_size (bq0_ HB.out)) hk)), Kd.fresh' (Kd.R_lt (mvR_ HO626.out)) k_ hk, Kd.fresh' (Kd.R_lt (mvR_ HO630.out)) k_ hk⟩)); (case aO => exact (mvN_ HO636.out)); (case aS => exact (below_size (bq0_ HB.out))); (case aL => have := LMc17.out; omega); intro v638 w25 ho hb hg hat; rw [← Ny637.out] at ho; have HO639 := Aside0.mk (ho); replace HO_0 := Aside0.mk (Kd.V_afterv (ok := (fun k_ => ((P0_ k_ ∨ P1_ k_) ∨ w.heap.size ≤ k_) ∧ some k_ ≠ (v625 : Value).ownBlock ∧ some k_ ≠ (v629 : Value).ownBlock)) (mvV_ HO_0.out) hg hat); replace HO_1 := Aside0.mk (Kd.V_afterv (ok := (fun k_ => ((P0_ k_ ∨ P1_ k_) ∨ w.heap.size ≤ k_) ∧ some k_ ≠ (v625 : Value).ownBlock ∧ some k_ ≠ (v629 : Value).ownBlock)) (mvV_ HO_1.out) hg hat); replace HO626 := Aside0.mk (Kd.R_over' (mvR_ HO626.out) (Kd.N_typed (mvN_ HO636.out)) (by decide) hg); replace HO630 := Aside0.mk (Kd.R_over' (mvR_ HO630.out) (Kd.N_typed (mvN_ HO636.out)) (by decide) hg); replace HB := Aside0.mk (hb); clear HO636 ho hb hg hat; obtain ⟨Ao26, co26, eo26⟩ := Kd.N_slice HO639.out; subst eo26) | ((with_reducible refine gate_callee (f := 10) rfl ?_); refine gL_ (some 45) Try.func10 #[.slice Ao26 y637.length co26] ?_; (with_reducible refine (script_Write.calls kj4 _ _ y637 t640 t641 _ ?side1 ?side2 A18.out).mono ?_); (case side1 => exact mvC_ ((Kd.N_reads' HO639.out).2.2)); (case side2 => exact (Kd.N_reads' HO639.out).2.1); rintro e w27 ⟨v642, rfl, ho0, hb⟩; refine ⟨_, rfl, ?_⟩; have HO643 := Aside0.mk (Kd.R_lower (Kd.R_new' (Kd.R_new' (Kd.R_newM (M := fun k_ => (w.heap.size ≤ k_)) ho0 (below_size (bq0_ HB.out)) (fun k_ h_ => h_)) (Kd.R_lt (mvR_ HO626.out))) (Kd.R_lt (mvR_ HO630.out))) (below_size (bq0_ HB.out))); replace HO_0 := Aside0.mk (Kd.V_elder' (mvV_ HO_0.out) (Kd.R_base ho0) hb); replace HO_1 := Aside0.mk (Kd.V_elder' (mvV_ HO_1.out) (Kd.R_base ho0) hb); replace HO626 := Aside0.mk (Kd.R_elder' (mvR_ HO626.out) (Kd.R_base ho0) hb); replace HO630 := Aside0.mk (Kd.R_elder' (mvR_ HO630.out) (Kd.R_base ho0) hb); replace HO639 := Aside0.mk (Kd.N_elder' (mvN_ HO639.out) (Kd.R_base ho0) hb); replace HB := Aside0.mk (below_step (bq0_ HB.out) hb); (try clear hb); (try clear ho0)))
      (try simp only [Act.put, sA_, sB_, sC_])
      go_cut [53] (fun v53 wc => ∃ (kq : Nat) (x53_18 : Bool), v53 = .bool x53_18 ∧ Aside0 (fullerlaw23_ScriptJoins.j1 kq l0 a2 t620 t623 t627 t640 t641 x53_18 = some r) ∧ Aside0 (kq ≤ kj4) ∧ Aside0 (Kd.V k30 30 wc w.heap.size (fun k_ => ((P0_ k_ ∨ P1_ k_) ∨ w.heap.size ≤ k_) ∧ some k_ ≠ (v625 : Value).ownBlock ∧ some k_ ≠ (v629 : Value).ownBlock ∧ some k_ ≠ (v642 : Value).ownBlock) (.slice A0 l0.length c0) l0) ∧ Aside0 (Kd.R (Kd.int .u8) 5 wc w.heap.size (fun k_ => (w.heap.size ≤ k_) ∧ some k_ ≠ (v629 : Value).ownBlock ∧ some k_ ≠ (v642 : Value).ownBlock) v625 t623) ∧ Aside0 (Kd.R (Kd.int .u8) 5 wc w.heap.size (fun k_ => (w.heap.size ≤ k_) ∧ some k_ ≠ (v625 : Value).ownBlock ∧ some k_ ≠ (v642 : Value).ownBlock) v629 t627) ∧ Aside0 (Kd.R (Kd.int .u8) 5 wc w.heap.size (fun k_ => (w.heap.size ≤ k_) ∧ some k_ ≠ (v625 : Value).ownBlock ∧ some k_ ≠ (v629 : Value).ownBlock) v642 t640) ∧ Aside0 (Below w.heap.size w wc))
      case first =>
       have H := HC19.out
       clear HC19
       by_cases c28 : t624 = 0
       ·rw [if_pos c28] at H
        obtain ⟨c28b0, c28b1⟩ := eqT_ c28
        clear c28
        (first | rw [c28b0] | (simp only [i64_w, i32_w]; rw [c28b0]) | rw [c28b1] | skip)
        have H' := Aside0.mk H
        clear H
        go_wp2
        go_meet
        case rel => exact ⟨_, ((t628 != 0)), (by first | rfl | (simp; done) | (simp [*]; done)), H', ⟨by have := HJ4.out; first | omega | exact Nat.le_refl _⟩, ⟨by (with_reducible repeat (first | apply Kd.V_alloc | apply Kd.V_drewN | apply Kd.V_drew)); exact Kd.V_mono HO_0.out (fun _ hk => ⟨hk.1.1.1, ⟨hk.1.1.2.1, ⟨hk.1.1.2.2, hk.2⟩⟩⟩)⟩, ⟨by (with_reducible repeat (first | apply Kd.R_alloc | apply Kd.R_drewN | apply Kd.R_drew)); exact Kd.R_mono HO626.out (fun _ hk => ⟨hk.1.1.1, ⟨hk.1.2, hk.2⟩⟩)⟩, ⟨by (with_reducible repeat (first | apply Kd.R_alloc | apply Kd.R_drewN | apply Kd.R_drew)); exact Kd.R_mono HO630.out (fun _ hk => ⟨hk.1.1.1, ⟨hk.1.2, hk.2⟩⟩)⟩, ⟨by (with_reducible repeat (first | apply Kd.R_alloc | apply Kd.R_drewN | apply Kd.R_drew)); exact Kd.R_mono HO643.out (fun _ hk => ⟨hk.1.1.1, ⟨hk.1.2, hk.2⟩⟩)⟩, ⟨bq0_ HB.out⟩⟩
       ·rw [if_neg c28] at H
        have c28b0 : (t624 == 0) = false := beq_eq_false_iff_ne.mpr c28
        have c28b1 : (t624 != 0) = true := bne_iff_ne.mpr c28
        (first | rw [c28b0] | (simp only [i64_w, i32_w]; rw [c28b0]) | rw [c28b1] | skip)
        have H' := Aside0.mk H
        clear H
        go_wp2
        go_meet
        case rel => exact ⟨_, (true), (by first | rfl | (simp; done) | (simp [*]; done)), H', ⟨by have := HJ4.out; first | omega | exact Nat.le_refl _⟩, ⟨by (with_reducible repeat (first | apply Kd.V_alloc | apply Kd.V_drewN | apply Kd.V_drew)); exact Kd.V_mono HO_0.out (fun _ hk => ⟨hk.1.1.1, ⟨hk.1.1.2.1, ⟨hk.1.1.2.2, hk.2⟩⟩⟩)⟩, ⟨by (with_reducible repeat (first | apply Kd.R_alloc | apply Kd.R_drewN | apply Kd.R_drew)); exact Kd.R_mono HO626.out (fun _ hk => ⟨hk.1.1.1, ⟨hk.1.2, hk.2⟩⟩)⟩, ⟨by (with_reducible repeat (first | apply Kd.R_alloc | apply Kd.R_drewN | apply Kd.R_drew)); exact Kd.R_mono HO630.out (fun _ hk => ⟨hk.1.1.1, ⟨hk.1.2, hk.2⟩⟩)⟩, ⟨by (with_reducible repeat (first | apply Kd.R_alloc | apply Kd.R_drewN | apply Kd.R_drew)); exact Kd.R_mono HO643.out (fun _ hk => ⟨hk.1.1.1, ⟨hk.1.2, hk.2⟩⟩)⟩, ⟨bq0_ HB.out⟩⟩
      case rest =>
       clear HC19
       try clear c1
       try clear c2
       try clear p2
       try clear c5
       try clear c8
       try clear c9
       try clear c10
       try clear c13
       try clear c16
       try clear c17
       try clear c28
       try clear c28b0
       try clear c28b1
       try clear p2
       obtain ⟨kq, x53_18, rfl, HA, HJ18, HO_0, HO_8, HO_10, HO_12, HB⟩ := hcut
       cases kq with
       | zero => exact absurd HA.out (by simp [fullerlaw23_ScriptJoins.j1])
       | succ kj18 =>
        have H := HA.out
        clear HA
        simp only [fullerlaw23_ScriptJoins.j1] at H
        by_cases c29 : x53_18 = true
        ·subst c29
         have H1 : (if t620 = true then (some (t641 == 230)) else (some false)) = some r := by rw [if_pos rfl] at H; exact H
         clear H
         have H := H1
         clear H1
         by_cases c30 : t620 = true
         ·subst c30
          have H1 : (some (t641 == 230)) = some r := by rw [if_pos rfl] at H; exact H
          clear H
          have H := H1
          clear H1
          obtain rfl := Option.some.inj H
          go_wp2
          go_ret
          exact ⟨by first | rfl | (simp <;> rfl) | (simp [*] <;> rfl), bq0_ HB.out⟩
         ·replace c30 := Bool.eq_false_iff.mpr c30
          subst c30
          have H1 : (some false) = some r := by rw [if_neg (show ¬ (false = true) by decide)] at H; exact H
          clear H
          have H := H1
          clear H1
          obtain rfl := Option.some.inj H
          go_wp2
          go_ret
          exact ⟨by first | rfl | (simp <;> rfl) | (simp [*] <;> rfl), bq0_ HB.out⟩
        ·replace c29 := Bool.eq_false_iff.mpr c29
         subst c29
         have H1 : (if (l0.length : Int) = 0 then (fullerlaw23_ScriptJoins.j2 kj18 l0 a2 t620 t623 t627 t640 t641 true) else (fullerlaw23_ScriptJoins.j2 kj18 l0 a2 t620 t623 t627 t640 t641 ((t623.length : Int) == 0))) = some r := by rw [if_neg (show ¬ (false = true) by decide)] at H; exact H
         clear H
         have H := H1
         clear H1
         have HC31 := Aside0.mk H
         clear H
         go_upto_region 9 with (fail)
         go_cut [66] (fun v66 wc => ∃ (kq : Nat) (x66_30 : Bool), v66 = .bool x66_30 ∧ Aside0 (fullerlaw23_ScriptJoins.j2 kq l0 a2 t620 t623 t627 t640 t641 x66_30 = some r) ∧ Aside0 (kq ≤ kj18) ∧ Aside0 (Kd.V k30 30 wc w.heap.size (fun k_ => ((P0_ k_ ∨ P1_ k_) ∨ w.heap.size ≤ k_) ∧ some k_ ≠ (v625 : Value).ownBlock ∧ some k_ ≠ (v629 : Value).ownBlock ∧ some k_ ≠ (v642 : Value).ownBlock) (.slice A0 l0.length c0) l0) ∧ Aside0 (Kd.R (Kd.int .u8) 5 wc w.heap.size (fun k_ => (w.heap.size ≤ k_) ∧ some k_ ≠ (v629 : Value).ownBlock ∧ some k_ ≠ (v642 : Value).ownBlock) v625 t623) ∧ Aside0 (Kd.R (Kd.int .u8) 5 wc w.heap.size (fun k_ => (w.heap.size ≤ k_) ∧ some k_ ≠ (v625 : Value).ownBlock ∧ some k_ ≠ (v642 : Value).ownBlock) v629 t627) ∧ Aside0 (Kd.R (Kd.int .u8) 5 wc w.heap.size (fun k_ => (w.heap.size ≤ k_) ∧ some k_ ≠ (v625 : Value).ownBlock ∧ some k_ ≠ (v629 : Value).ownBlock) v642 t640) ∧ Aside0 (Below w.heap.size w wc))
         case first =>
          have H := HC31.out
          clear HC31
          by_cases c32 : (l0.length : Int) = 0
          ·rw [if_pos c32] at H
           obtain ⟨c32b0, c32b1⟩ := eqT_ c32
           clear c32
           (first | rw [c32b0] | (simp only [i64_w, i32_w]; rw [c32b0]) | rw [c32b1] | skip)
           have H' := Aside0.mk H
           clear H
           go_wp2
           go_meet
           case rel => exact ⟨_, (true), (by first | rfl | (simp; done) | (simp [*]; done)), H', ⟨by have := HJ4.out; have := HJ18.out; first | omega | exact Nat.le_refl _⟩, ⟨mvV_ HO_0.out⟩, ⟨mvR_ HO_8.out⟩, ⟨mvR_ HO_10.out⟩, ⟨mvR_ HO_12.out⟩, ⟨bq0_ HB.out⟩⟩
          ·rw [if_neg c32] at H
           have c32b0 : ((l0.length : Int) == 0) = false := beq_eq_false_iff_ne.mpr c32
           have c32b1 : ((l0.length : Int) != 0) = true := bne_iff_ne.mpr c32
           have c32b2 : ¬ (l0 = []) := fun h_ => c32 (by rw [h_]; rfl)
           (first | rw [c32b0] | (simp only [i64_w, i32_w]; rw [c32b0]) | rw [c32b1] | skip)
           have H' := Aside0.mk H
           clear H
           obtain ⟨Ao33, co33, eo33⟩ := Kd.R_slice HO_8.out
           subst eo33
           go_wp2
           go_meet
           case rel => exact ⟨_, (((t623.length : Int) == 0)), (by first | rfl | (simp; done) | (simp [*]; done)), H', ⟨by have := HJ4.out; have := HJ18.out; first | omega | exact Nat.le_refl _⟩, ⟨mvV_ HO_0.out⟩, ⟨mvR_ HO_8.out⟩, ⟨mvR_ HO_10.out⟩, ⟨mvR_ HO_12.out⟩, ⟨bq0_ HB.out⟩⟩
         case rest =>
          clear HC31
          try clear c1
          try clear c2
          try clear p2
          try clear c3
          try clear c5
          try clear c8
          try clear c9
          try clear c10
          try clear c13
          try clear c16
          try clear c17
          try clear c28
          try clear c28b0
          try clear c28b1
          try clear c29
          try clear c30
          try clear c32
          try clear c32b0
          try clear c32b1
          try clear c32b2
          try clear p2
          obtain ⟨kq, x66_30, rfl, HA, HJ30, HO_0, HO_8, HO_10, HO_12, HB⟩ := hcut
          cases kq with
          | zero => exact absurd HA.out (by simp [fullerlaw23_ScriptJoins.j2])
          | succ kj30 =>
           have H := HA.out
           clear HA
           simp only [fullerlaw23_ScriptJoins.j2] at H
           by_cases c34 : x66_30 = true
           ·subst c34
            have H1 : (if t620 = true then (if t641 = 0 then (if (strOfNums t640).toList = (strOfNums t627).toList then (some ((l0.length : Int) == (t623.length : Int))) else (some false)) else (some false)) else (some false)) = some r := by rw [if_pos rfl] at H; exact H
            clear H
            have H := H1
            clear H1
            by_cases c35 : t620 = true
            ·subst c35
             have H1 : (if t641 = 0 then (if (strOfNums t640).toList = (strOfNums t627).toList then (some ((l0.length : Int) == (t623.length : Int))) else (some false)) else (some false)) = some r := by rw [if_pos rfl] at H; exact H
             clear H
             have H := H1
             clear H1
             by_cases c36 : t641 = 0
             ·rw [if_pos c36] at H
              obtain ⟨c36b0, c36b1⟩ := eqT_ c36
              clear c36
              by_cases c37 : (strOfNums t640).toList = (strOfNums t627).toList
              ·rw [if_pos c37] at H
               obtain ⟨c37b0, c37b1⟩ := (⟨beq_iff_eq.mpr c37, bne_eq_false_iff_eq.mpr c37⟩ : (_ == _) = true ∧ (_ != _) = false)
               clear c37
               obtain rfl := Option.some.inj H
               have hcv38 := own_string (P := Try.prog) Try.underlying31 Try.underlying5 Try.underlying9 (Kd.own_of_R HO_12.out)
               have hcv39 := own_string (P := Try.prog) Try.underlying31 Try.underlying5 Try.underlying9 (Kd.own_of_R HO_10.out)
               obtain ⟨Ao40, co40, eo40⟩ := Kd.R_slice HO_8.out
               subst eo40
               go_wp2
               go_ret
               exact ⟨by first | rfl | (simp <;> rfl) | (simp [*] <;> rfl), bq0_ HB.out⟩
              ·rw [if_neg c37] at H
               have c37b0 : ((strOfNums t640).toList == (strOfNums t627).toList) = false := beq_eq_false_iff_ne.mpr c37
               have c37b1 : ((strOfNums t640).toList != (strOfNums t627).toList) = true := bne_iff_ne.mpr c37
               obtain rfl := Option.some.inj H
               have hcv41 := own_string (P := Try.prog) Try.underlying31 Try.underlying5 Try.underlying9 (Kd.own_of_R HO_12.out)
               have hcv42 := own_string (P := Try.prog) Try.underlying31 Try.underlying5 Try.underlying9 (Kd.own_of_R HO_10.out)
               go_wp2
               go_ret
               exact ⟨by first | rfl | (simp <;> rfl) | (simp [*] <;> rfl), bq0_ HB.out⟩
             ·rw [if_neg c36] at H
              have c36b0 : (t641 == 0) = false := beq_eq_false_iff_ne.mpr c36
              have c36b1 : (t641 != 0) = true := bne_iff_ne.mpr c36
              obtain rfl := Option.some.inj H
              go_wp2
              go_ret
              exact ⟨by first | rfl | (simp <;> rfl) | (simp [*] <;> rfl), bq0_ HB.out⟩
            ·replace c35 := Bool.eq_false_iff.mpr c35
             subst c35
             have H1 : (some false) = some r := by rw [if_neg (show ¬ (false = true) by decide)] at H; exact H
             clear H
             have H := H1
             clear H1
             obtain rfl := Option.some.inj H
             go_wp2
             go_ret
             exact ⟨by first | rfl | (simp <;> rfl) | (simp [*] <;> rfl), bq0_ HB.out⟩
           ·replace c34 := Bool.eq_false_iff.mpr c34
            subst c34
            have H1 : (if 1 ≤ (l0.length : Int) then ((script_Write.f kj30 (l0.take 1)).bind fun bt649 => (if bt649.2 = 0 then (if (bt649.1.length : Int) = 0 then (some false) else (if 0 ≤ (Int.tmod (wrap64 (a2)) (bt649.1.length : Int)) then (if (Int.tmod (wrap64 (a2)) (bt649.1.length : Int)) ≤ (bt649.1.length : Int) then ((script_Read.f kj30 (bt649.1.take ((Int.tmod (wrap64 (a2)) (bt649.1.length : Int)) : Int).toNat)).bind fun bt658 => (if t620 = true then (if t641 = 0 then (if (strOfNums t623).size + (strOfNums t627).size ≤ 9223372036854775807 then (if (strOfNums t640).toList = ((strOfNums t623) ++ (strOfNums t627)).toList then (if (Int.tmod (wrap64 (a2)) (bt649.1.length : Int)) = 0 then (if bt658.2 = 0 then (some true) else (if (Int.tmod (wrap64 (a2)) (bt649.1.length : Int)) > 0 then (some (bt658.2 == 230)) else (some false))) else (if (Int.tmod (wrap64 (a2)) (bt649.1.length : Int)) > 0 then (some (bt658.2 == 230)) else (some false))) else (some false)) else (none)) else (some false)) else (some false))) else (none)) else (none))) else (some false))) else (none)) = some r := by rw [if_neg (show ¬ (false = true) by decide)] at H; exact H
            clear H
            have H := H1
            clear H1
            by_cases c43 : 1 ≤ (l0.length : Int)
            ·rw [if_pos c43] at H
             have c43b0 := eq_true c43
             have c43b1 : decide (1 ≤ (l0.length : Int)) = true := decide_eq_true c43
             clear c43
             obtain ⟨y644, hy644⟩ : ∃ y_ : List (S30), y_ = (l0.take 1) := ⟨_, rfl⟩
             replace H : ((script_Write.f kj30 y644).bind fun bt649 => (if bt649.2 = 0 then (if (bt649.1.length : Int) = 0 then (some false) else (if 0 ≤ (Int.tmod (wrap64 (a2)) (bt649.1.length : Int)) then (if (Int.tmod (wrap64 (a2)) (bt649.1.length : Int)) ≤ (bt649.1.length : Int) then ((script_Read.f kj30 (bt649.1.take ((Int.tmod (wrap64 (a2)) (bt649.1.length : Int)) : Int).toNat)).bind fun bt658 => (if t620 = true then (if t641 = 0 then (if (strOfNums t623).size + (strOfNums t627).size ≤ 9223372036854775807 then (if (strOfNums t640).toList = ((strOfNums t623) ++ (strOfNums t627)).toList then (if (Int.tmod (wrap64 (a2)) (bt649.1.length : Int)) = 0 then (if bt658.2 = 0 then (some true) else (if (Int.tmod (wrap64 (a2)) (bt649.1.length : Int)) > 0 then (some (bt658.2 == 230)) else (some false))) else (if (Int.tmod (wrap64 (a2)) (bt649.1.length : Int)) > 0 then (some (bt658.2 == 230)) else (some false))) else (some false)) else (none)) else (some false)) else (some false))) else (none)) else (none))) else (some false))) = some r := by first | (rw [hy644]; with_reducible exact H) | (have H2_ := (Option.bind_some _ _).symm.trans H; rw [hy644]; with_reducible exact H2_) | (have H2_ := (Option.bind_some _ _).symm.trans H; with_reducible exact H2_) | with_reducible exact H | (rw [hy644]; exact H) | exact H
             have Ny644 := Aside0.mk hy644
             clear hy644
             replace H := Option.bind_eq_some_iff.mp H
             obtain ⟨⟨t649, t650⟩, A440, H⟩ := H
             replace H : (if t650 = 0 then (if (t649.length : Int) = 0 then (some false) else (if 0 ≤ (Int.tmod (wrap64 (a2)) (t649.length : Int)) then (if (Int.tmod (wrap64 (a2)) (t649.length : Int)) ≤ (t649.length : Int) then ((script_Read.f kj30 (t649.take ((Int.tmod (wrap64 (a2)) (t649.length : Int)) : Int).toNat)).bind fun bt658 => (if t620 = true then (if t641 = 0 then (if (strOfNums t623).size + (strOfNums t627).size ≤ 9223372036854775807 then (if (strOfNums t640).toList = ((strOfNums t623) ++ (strOfNums t627)).toList then (if (Int.tmod (wrap64 (a2)) (t649.length : Int)) = 0 then (if bt658.2 = 0 then (some true) else (if (Int.tmod (wrap64 (a2)) (t649.length : Int)) > 0 then (some (bt658.2 == 230)) else (some false))) else (if (Int.tmod (wrap64 (a2)) (t649.length : Int)) > 0 then (some (bt658.2 == 230)) else (some false))) else (some false)) else (none)) else (some false)) else (some false))) else (none)) else (none))) else (some false)) = some r := H
             have A44 := Aside0.mk A440
             clear A440
             by_cases c45 : t650 = 0
             ·rw [if_pos c45] at H
              obtain ⟨c45b0, c45b1⟩ := eqT_ c45
              clear c45
              by_cases c46 : (t649.length : Int) = 0
              ·rw [if_pos c46] at H
               obtain ⟨c46b0, c46b1⟩ := eqT_ c46
               clear c46
               obtain rfl := Option.some.inj H
               have q47 : (1 : Int) ≤ ((l0.length : Int) : Int) := od_
               obtain ⟨i047, hi047, _, hsz47, _⟩ := info_parts info30
               have hroom47 : l0.length ≤ c0 := (Kd.V_reads' HO_0.out).2.1
               have hC47 : Kd.F k30 _ _ A0 l0.length l0 := (Kd.V_at (base := w.heap.size) HO_0.out).2.2
               have hcut47 := cut_to (P := Try.prog) 22 30 .i64 Try.underlying22 hi047 A0 l0.length c0 1 (by omega) q47 hroom47
               have hr47 := Kd.F_take (m := 1) hC47 (by omega)
               have hy47 : y644.length = (1 : Int).toNat := (by rw [Ny644.out, List.length_take]; omega)
               rw [← Ny644.out] at hr47
               rw [← hy47] at hcut47
               have HO648 := Aside0.mk (show Kd.V k30 30 _ w.heap.size _ (.slice A0 y644.length c0) y644 from Kd.V_mk (by omega) hr47)
               have HC648 := Aside0.mk (show y644.length ≤ c0 from by omega)
               clear hr47 hC47 hroom47 hi047 hsz47
               have KY47 := Aside0.mk hy47
               clear hy47
               replace q47 := eq_true q47
               go_wp2_with (first | ((with_reducible refine gate_callee (f := 10) rfl ?_); refine gL_ (some 89) Try.func10 #[.slice A0 y644.length c0] ?_; (with_reducible refine (script_Write.calls kj30 _ _ y644 t649 t650 _ ?side1 ?side2 A44.out).mono ?_); (case side1 => exact mvC_ ((Kd.V_reads' HO648.out).2.2)); (case side2 => exact (Kd.V_reads' HO648.out).2.1); rintro e w48 ⟨v651, rfl, ho0, hb⟩; refine ⟨_, rfl, ?_⟩; have HO652 := Aside0.mk (Kd.R_lower (Kd.R_new' (Kd.R_new' (Kd.R_new' (Kd.R_newM (M := fun k_ => (w.heap.size ≤ k_)) ho0 (below_size (bq0_ HB.out)) (fun k_ h_ => h_)) (Kd.R_lt (mvR_ HO_8.out))) (Kd.R_lt (mvR_ HO_10.out))) (Kd.R_lt (mvR_ HO_12.out))) (below_size (bq0_ HB.out))); replace HO_0 := Aside0.mk (Kd.V_elder' (mvV_ HO_0.out) (Kd.R_base ho0) hb); replace HO_8 := Aside0.mk (Kd.R_elder' (mvR_ HO_8.out) (Kd.R_base ho0) hb); replace HO_10 := Aside0.mk (Kd.R_elder' (mvR_ HO_10.out) (Kd.R_base ho0) hb); replace HO_12 := Aside0.mk (Kd.R_elder' (mvR_ HO_12.out) (Kd.R_base ho0) hb); replace HO648 := Aside0.mk (Kd.V_elder' (mvV_ HO648.out) (Kd.R_base ho0) hb); replace HB := Aside0.mk (below_step (bq0_ HB.out) hb); (try clear hb); (try clear ho0); obtain ⟨Ao49, co49, eo49⟩ := Kd.R_slice HO652.out; subst eo49))
               go_ret
               exact ⟨by first | rfl | (simp <;> rfl) | (simp [*] <;> rfl), bq0_ HB.out⟩
              ·rw [if_neg c46] at H
               have c46b0 : ((t649.length : Int) == 0) = false := beq_eq_false_iff_ne.mpr c46
               have c46b1 : ((t649.length : Int) != 0) = true := bne_iff_ne.mpr c46
               have c46b2 : ¬ (t649 = []) := fun h_ => c46 (by rw [h_]; rfl)
               obtain ⟨ji50, hji50⟩ : ∃ j_ : Int, (Int.tmod (wrap64 (a2)) (t649.length : Int)) = j_ := ⟨_, rfl⟩
               replace H : (if 0 ≤ (ji50) then (if (ji50) ≤ (t649.length : Int) then ((script_Read.f kj30 (t649.take ((ji50) : Int).toNat)).bind fun bt658 => (if t620 = true then (if t641 = 0 then (if (strOfNums t623).size + (strOfNums t627).size ≤ 9223372036854775807 then (if (strOfNums t640).toList = ((strOfNums t623) ++ (strOfNums t627)).toList then (if (ji50) = 0 then (if bt658.2 = 0 then (some true) else (if (ji50) > 0 then (some (bt658.2 == 230)) else (some false))) else (if (ji50) > 0 then (some (bt658.2 == 230)) else (some false))) else (some false)) else (none)) else (some false)) else (some false))) else (none)) else (none)) = some r := by first | (rw [hji50] at H; exact H) | (simp only [hji50] at H ⊢; exact H)
               (try rw [hji50] at A44)
               by_cases c51 : 0 ≤ (ji50)
               ·rw [if_pos c51] at H
                have c51b0 := eq_true c51
                have c51b1 : decide (0 ≤ (ji50)) = true := decide_eq_true c51
                clear c51
                by_cases c52 : (ji50) ≤ (t649.length : Int)
                ·rw [if_pos c52] at H
                 have c52b0 := eq_true c52
                 have c52b1 : decide ((ji50) ≤ (t649.length : Int)) = true := decide_eq_true c52
                 clear c52
                 obtain ⟨y653, hy653⟩ : ∃ y_ : List Int, y_ = (t649.take ((ji50) : Int).toNat) := ⟨_, rfl⟩
                 replace H : ((script_Read.f kj30 y653).bind fun bt658 => (if t620 = true then (if t641 = 0 then (if (strOfNums t623).size + (strOfNums t627).size ≤ 9223372036854775807 then (if (strOfNums t640).toList = ((strOfNums t623) ++ (strOfNums t627)).toList then (if (ji50) = 0 then (if bt658.2 = 0 then (some true) else (if (ji50) > 0 then (some (bt658.2 == 230)) else (some false))) else (if (ji50) > 0 then (some (bt658.2 == 230)) else (some false))) else (some false)) else (none)) else (some false)) else (some false))) = some r := by first | (rw [hy653]; with_reducible exact H) | (have H2_ := (Option.bind_some _ _).symm.trans H; rw [hy653]; with_reducible exact H2_) | (have H2_ := (Option.bind_some _ _).symm.trans H; with_reducible exact H2_) | with_reducible exact H | (rw [hy653]; exact H) | exact H
                 have Ny653 := Aside0.mk hy653
                 clear hy653
                 replace H := Option.bind_eq_some_iff.mp H
                 obtain ⟨⟨t658, t659⟩, A530, H⟩ := H
                 replace H : (if t620 = true then (if t641 = 0 then (if (strOfNums t623).size + (strOfNums t627).size ≤ 9223372036854775807 then (if (strOfNums t640).toList = ((strOfNums t623) ++ (strOfNums t627)).toList then (if (ji50) = 0 then (if t659 = 0 then (some true) else (if (ji50) > 0 then (some (t659 == 230)) else (some false))) else (if (ji50) > 0 then (some (t659 == 230)) else (some false))) else (some false)) else (none)) else (some false)) else (some false)) = some r := H
                 have A53 := Aside0.mk A530
                 clear A530
                 by_cases c54 : t620 = true
                 ·subst c54
                  have H1 : (if t641 = 0 then (if (strOfNums t623).size + (strOfNums t627).size ≤ 9223372036854775807 then (if (strOfNums t640).toList = ((strOfNums t623) ++ (strOfNums t627)).toList then (if (ji50) = 0 then (if t659 = 0 then (some true) else (if (ji50) > 0 then (some (t659 == 230)) else (some false))) else (if (ji50) > 0 then (some (t659 == 230)) else (some false))) else (some false)) else (none)) else (some false)) = some r := by rw [if_pos rfl] at H; exact H
                  clear H
                  have H := H1
                  clear H1
                  by_cases c55 : t641 = 0
                  ·rw [if_pos c55] at H
                   obtain ⟨c55b0, c55b1⟩ := eqT_ c55
                   clear c55
                   by_cases c56 : (strOfNums t623).size + (strOfNums t627).size ≤ 9223372036854775807
                   ·rw [if_pos c56] at H
                    have c56b0 := eq_true c56
                    have c56b1 : decide ((strOfNums t623).size + (strOfNums t627).size ≤ 9223372036854775807) = true := decide_eq_true c56
                    try have c56b2 : (9223372036854775807 < (strOfNums t623).size + (strOfNums t627).size) = False := eq_false (Nat.not_lt.2 c56)
                    by_cases c57 : (strOfNums t640).toList = ((strOfNums t623) ++ (strOfNums t627)).toList
                    ·rw [if_pos c57] at H
                     obtain ⟨c57b0, c57b1⟩ := (⟨beq_iff_eq.mpr c57, bne_eq_false_iff_eq.mpr c57⟩ : (_ == _) = true ∧ (_ != _) = false)
                     clear c57
                     by_cases c58 : (ji50) = 0
                     ·rw [if_pos c58] at H
                      obtain ⟨c58b0, c58b1⟩ := eqT_ c58
                      clear c58
                      by_cases c59 : t659 = 0
                      ·rw [if_pos c59] at H
                       obtain ⟨c59b0, c59b1⟩ := eqT_ c59
                       clear c59
                       obtain rfl := Option.some.inj H
                       have q60 : (1 : Int) ≤ ((l0.length : Int) : Int) := od_
                       obtain ⟨i060, hi060, _, hsz60, _⟩ := info_parts info30
                       have hroom60 : l0.length ≤ c0 := (Kd.V_reads' HO_0.out).2.1
                       have hC60 : Kd.F k30 _ _ A0 l0.length l0 := (Kd.V_at (base := w.heap.size) HO_0.out).2.2
                       have hcut60 := cut_to (P := Try.prog) 22 30 .i64 Try.underlying22 hi060 A0 l0.length c0 1 (by omega) q60 hroom60
                       have hr60 := Kd.F_take (m := 1) hC60 (by omega)
                       have hy60 : y644.length = (1 : Int).toNat := (by rw [Ny644.out, List.length_take]; omega)
                       rw [← Ny644.out] at hr60
                       rw [← hy60] at hcut60
                       have HO648 := Aside0.mk (show Kd.V k30 30 _ w.heap.size _ (.slice A0 y644.length c0) y644 from Kd.V_mk (by omega) hr60)
                       have HC648 := Aside0.mk (show y644.length ≤ c0 from by omega)
                       clear hr60 hC60 hroom60 hi060 hsz60
                       have KY60 := Aside0.mk hy60
                       clear hy60
                       replace q60 := eq_true q60
                       go_wp2_with (first | ((with_reducible refine gate_callee (f := 10) rfl ?_); refine gL_ (some 89) Try.func10 #[.slice A0 y644.length c0] ?_; (with_reducible refine (script_Write.calls kj30 _ _ y644 t649 t650 _ ?side1 ?side2 A44.out).mono ?_); (case side1 => exact mvC_ ((Kd.V_reads' HO648.out).2.2)); (case side2 => exact (Kd.V_reads' HO648.out).2.1); rintro e w61 ⟨v651, rfl, ho0, hb⟩; refine ⟨_, rfl, ?_⟩; have HO652 := Aside0.mk (Kd.R_lower (Kd.R_new' (Kd.R_new' (Kd.R_new' (Kd.R_newM (M := fun k_ => (w.heap.size ≤ k_)) ho0 (below_size (bq0_ HB.out)) (fun k_ h_ => h_)) (Kd.R_lt (mvR_ HO_8.out))) (Kd.R_lt (mvR_ HO_10.out))) (Kd.R_lt (mvR_ HO_12.out))) (below_size (bq0_ HB.out))); replace HO_0 := Aside0.mk (Kd.V_elder' (mvV_ HO_0.out) (Kd.R_base ho0) hb); replace HO_8 := Aside0.mk (Kd.R_elder' (mvR_ HO_8.out) (Kd.R_base ho0) hb); replace HO_10 := Aside0.mk (Kd.R_elder' (mvR_ HO_10.out) (Kd.R_base ho0) hb); replace HO_12 := Aside0.mk (Kd.R_elder' (mvR_ HO_12.out) (Kd.R_base ho0) hb); replace HO648 := Aside0.mk (Kd.V_elder' (mvV_ HO648.out) (Kd.R_base ho0) hb); replace HB := Aside0.mk (below_step (bq0_ HB.out) hb); (try clear hb); (try clear ho0); obtain ⟨Ao62, co62, eo62⟩ := Kd.R_slice HO652.out; subst eo62; have q63 : ((ji50) : Int) ≤ ((t649.length : Int) : Int) := od_; obtain ⟨i063, hi063, _, hsz63, _⟩ := info_parts info5; have hroom63 : t649.length ≤ co62 := (Kd.R_reads' HO652.out).2.1; have hC63 : Kd.F (Kd.int .u8) _ _ Ao62 t649.length t649 := (Kd.V_at (base := w.heap.size) (Kd.V_mono (ok' := (fun k_ => ((((((P0_ k_ ∨ P1_ k_) ∨ w.heap.size ≤ k_) ∧ True) ∧ some k_ ≠ (v625 : Value).ownBlock) ∧ some k_ ≠ (v629 : Value).ownBlock) ∧ some k_ ≠ (v642 : Value).ownBlock))) (Kd.R_V HO652.out) (fun k_ hk => ⟨⟨⟨⟨(.inr (hk.1.1.1.1)), trivial⟩, hk.1.1.2⟩, hk.1.2⟩, hk.2⟩))).2.2; have hcut63 := cut_to (P := Try.prog) 31 5 .i64 Try.underlying31 hi063 Ao62 t649.length co62 (ji50) od_ q63 hroom63; have hr63 := Kd.F_take (m := ((ji50) : Int).toNat) hC63 (by omega); have hy63 : y653.length = ((ji50) : Int).toNat := (by rw [Ny653.out, List.length_take]; omega); rw [← Ny653.out] at hr63; rw [← hy63] at hcut63; have HO657 := Aside0.mk (show Kd.V (Kd.int .u8) 5 _ w.heap.size _ (.slice Ao62 y653.length co62) y653 from Kd.V_mk (by omega) hr63); have HC657 := Aside0.mk (show y653.length ≤ co62 from by omega); clear hr63 hC63 hroom63 hi063 hsz63; have KY63 := Aside0.mk hy63; clear hy63; replace q63 := eq_true q63) | ((with_reducible refine gate_callee (f := 12) rfl ?_); refine gL_ (some 108) Try.func12 #[.slice Ao62 y653.length co62] ?_; (with_reducible refine (script_Read.calls kj30 _ _ y653 t658 t659 _ ?side1 ?side2 A53.out).mono ?_); (case side1 => exact mvC_ ((Kd.V_reads' HO657.out).2.2)); (case side2 => exact (Kd.V_reads' HO657.out).2.1); rintro e w64 ⟨v660, rfl, ho0, hb⟩; refine ⟨_, rfl, ?_⟩; have HO661 := Aside0.mk (Kd.N_lower (Kd.N_mono (ok' := fun k_ => ((P0_ k_ ∨ P1_ k_) ∨ w.heap.size ≤ k_) ∧ some k_ ≠ (v625 : Value).ownBlock ∧ some k_ ≠ (v629 : Value).ownBlock ∧ some k_ ≠ (v642 : Value).ownBlock ∧ some k_ ≠ (.slice Ao62 t649.length co62 : Value).ownBlock) (Kd.R_N (Kd.R_bound ho0)) (fun k_ hk_ => ⟨(.inr (Nat.le_trans (below_size (bq0_ HB.out)) hk_.2.1)), (Kd.fresh' (Kd.R_lt (mvR_ HO_8.out)) k_ hk_.2.1), (Kd.fresh' (Kd.R_lt (mvR_ HO_10.out)) k_ hk_.2.1), (Kd.fresh' (Kd.R_lt (mvR_ HO_12.out)) k_ hk_.2.1), (Kd.fresh' (Kd.R_lt (mvR_ HO652.out)) k_ hk_.2.1)⟩)) (below_size (bq0_ HB.out))); replace HO_0 := Aside0.mk (Kd.V_elder' (mvV_ HO_0.out) (Kd.R_base ho0) hb); replace HO_8 := mbR_ HO_8.out hb; replace HO_10 := mbR_ HO_10.out hb; replace HO_12 := mbR_ HO_12.out hb; replace HO648 := Aside0.mk (Kd.V_elder' (mvV_ HO648.out) (Kd.R_base ho0) hb); replace HO652 := mbR_ HO652.out hb; replace HO657 := Aside0.mk (Kd.V_elder' (mvV_ HO657.out) (Kd.R_base ho0) hb); replace HB := Aside0.mk (below_step (bq0_ HB.out) hb); (try clear hb); (try clear ho0); have hcv65 := own_string (P := Try.prog) Try.underlying31 Try.underlying5 Try.underlying9 (Kd.own_of_R HO_12.out); have hcv66 := own_string (P := Try.prog) Try.underlying31 Try.underlying5 Try.underlying9 (Kd.own_of_R HO_8.out); have hcv67 := own_string (P := Try.prog) Try.underlying31 Try.underlying5 Try.underlying9 (Kd.own_of_R HO_10.out)))
                       go_ret
                       exact ⟨by first | rfl | (simp [errW_none, errW_some] <;> rfl) | (simp only [← hji50]; first | rfl | (simp [errW_none, errW_some] <;> rfl)) | (simp [*, errW_none, errW_some] <;> rfl), bq0_ HB.out⟩
                      ·rw [if_neg c59] at H
                       have c59b0 : (t659 == 0) = false := beq_eq_false_iff_ne.mpr c59
                       have c59b1 : (t659 != 0) = true := bne_iff_ne.mpr c59
                       by_cases c68 : (ji50) > 0
                       ·rw [if_pos c68] at H
                        have c68b0 : decide (0 < (ji50)) = true := decide_eq_true c68
                        clear c68
                        obtain rfl := Option.some.inj H
                        have q69 : (1 : Int) ≤ ((l0.length : Int) : Int) := od_
                        obtain ⟨i069, hi069, _, hsz69, _⟩ := info_parts info30
                        have hroom69 : l0.length ≤ c0 := (Kd.V_reads' HO_0.out).2.1
                        have hC69 : Kd.F k30 _ _ A0 l0.length l0 := (Kd.V_at (base := w.heap.size) HO_0.out).2.2
                        have hcut69 := cut_to (P := Try.prog) 22 30 .i64 Try.underlying22 hi069 A0 l0.length c0 1 (by omega) q69 hroom69
                        have hr69 := Kd.F_take (m := 1) hC69 (by omega)
                        have hy69 : y644.length = (1 : Int).toNat := (by rw [Ny644.out, List.length_take]; omega)
                        rw [← Ny644.out] at hr69
                        rw [← hy69] at hcut69
                        have HO648 := Aside0.mk (show Kd.V k30 30 _ w.heap.size _ (.slice A0 y644.length c0) y644 from Kd.V_mk (by omega) hr69)
                        have HC648 := Aside0.mk (show y644.length ≤ c0 from by omega)
                        clear hr69 hC69 hroom69 hi069 hsz69
                        have KY69 := Aside0.mk hy69
                        clear hy69
                        replace q69 := eq_true q69
                        go_wp2_with (first | ((with_reducible refine gate_callee (f := 10) rfl ?_); refine gL_ (some 89) Try.func10 #[.slice A0 y644.length c0] ?_; (with_reducible refine (script_Write.calls kj30 _ _ y644 t649 t650 _ ?side1 ?side2 A44.out).mono ?_); (case side1 => exact mvC_ ((Kd.V_reads' HO648.out).2.2)); (case side2 => exact (Kd.V_reads' HO648.out).2.1); rintro e w70 ⟨v651, rfl, ho0, hb⟩; refine ⟨_, rfl, ?_⟩; have HO652 := Aside0.mk (Kd.R_lower (Kd.R_new' (Kd.R_new' (Kd.R_new' (Kd.R_newM (M := fun k_ => (w.heap.size ≤ k_)) ho0 (below_size (bq0_ HB.out)) (fun k_ h_ => h_)) (Kd.R_lt (mvR_ HO_8.out))) (Kd.R_lt (mvR_ HO_10.out))) (Kd.R_lt (mvR_ HO_12.out))) (below_size (bq0_ HB.out))); replace HO_0 := Aside0.mk (Kd.V_elder' (mvV_ HO_0.out) (Kd.R_base ho0) hb); replace HO_8 := Aside0.mk (Kd.R_elder' (mvR_ HO_8.out) (Kd.R_base ho0) hb); replace HO_10 := Aside0.mk (Kd.R_elder' (mvR_ HO_10.out) (Kd.R_base ho0) hb); replace HO_12 := Aside0.mk (Kd.R_elder' (mvR_ HO_12.out) (Kd.R_base ho0) hb); replace HO648 := Aside0.mk (Kd.V_elder' (mvV_ HO648.out) (Kd.R_base ho0) hb); replace HB := Aside0.mk (below_step (bq0_ HB.out) hb); (try clear hb); (try clear ho0); obtain ⟨Ao71, co71, eo71⟩ := Kd.R_slice HO652.out; subst eo71; have q72 : ((ji50) : Int) ≤ ((t649.length : Int) : Int) := od_; obtain ⟨i072, hi072, _, hsz72, _⟩ := info_parts info5; have hroom72 : t649.length ≤ co71 := (Kd.R_reads' HO652.out).2.1; have hC72 : Kd.F (Kd.int .u8) _ _ Ao71 t649.length t649 := (Kd.V_at (base := w.heap.size) (Kd.V_mono (ok' := (fun k_ => ((((((P0_ k_ ∨ P1_ k_) ∨ w.heap.size ≤ k_) ∧ True) ∧ some k_ ≠ (v625 : Value).ownBlock) ∧ some k_ ≠ (v629 : Value).ownBlock) ∧ some k_ ≠ (v642 : Value).ownBlock))) (Kd.R_V HO652.out) (fun k_ hk => ⟨⟨⟨⟨(.inr (hk.1.1.1.1)), trivial⟩, hk.1.1.2⟩, hk.1.2⟩, hk.2⟩))).2.2; have hcut72 := cut_to (P := Try.prog) 31 5 .i64 Try.underlying31 hi072 Ao71 t649.length co71 (ji50) od_ q72 hroom72; have hr72 := Kd.F_take (m := ((ji50) : Int).toNat) hC72 (by omega); have hy72 : y653.length = ((ji50) : Int).toNat := (by rw [Ny653.out, List.length_take]; omega); rw [← Ny653.out] at hr72; rw [← hy72] at hcut72; have HO657 := Aside0.mk (show Kd.V (Kd.int .u8) 5 _ w.heap.size _ (.slice Ao71 y653.length co71) y653 from Kd.V_mk (by omega) hr72); have HC657 := Aside0.mk (show y653.length ≤ co71 from by omega); clear hr72 hC72 hroom72 hi072 hsz72; have KY72 := Aside0.mk hy72; clear hy72; replace q72 := eq_true q72) | ((with_reducible refine gate_callee (f := 12) rfl ?_); refine gL_ (some 108) Try.func12 #[.slice Ao71 y653.length co71] ?_; (with_reducible refine (script_Read.calls kj30 _ _ y653 t658 t659 _ ?side1 ?side2 A53.out).mono ?_); (case side1 => exact mvC_ ((Kd.V_reads' HO657.out).2.2)); (case side2 => exact (Kd.V_reads' HO657.out).2.1); rintro e w73 ⟨v660, rfl, ho0, hb⟩; refine ⟨_, rfl, ?_⟩; have HO661 := Aside0.mk (Kd.N_lower (Kd.N_mono (ok' := fun k_ => ((P0_ k_ ∨ P1_ k_) ∨ w.heap.size ≤ k_) ∧ some k_ ≠ (v625 : Value).ownBlock ∧ some k_ ≠ (v629 : Value).ownBlock ∧ some k_ ≠ (v642 : Value).ownBlock ∧ some k_ ≠ (.slice Ao71 t649.length co71 : Value).ownBlock) (Kd.R_N (Kd.R_bound ho0)) (fun k_ hk_ => ⟨(.inr (Nat.le_trans (below_size (bq0_ HB.out)) hk_.2.1)), (Kd.fresh' (Kd.R_lt (mvR_ HO_8.out)) k_ hk_.2.1), (Kd.fresh' (Kd.R_lt (mvR_ HO_10.out)) k_ hk_.2.1), (Kd.fresh' (Kd.R_lt (mvR_ HO_12.out)) k_ hk_.2.1), (Kd.fresh' (Kd.R_lt (mvR_ HO652.out)) k_ hk_.2.1)⟩)) (below_size (bq0_ HB.out))); replace HO_0 := Aside0.mk (Kd.V_elder' (mvV_ HO_0.out) (Kd.R_base ho0) hb); replace HO_8 := mbR_ HO_8.out hb; replace HO_10 := mbR_ HO_10.out hb; replace HO_12 := mbR_ HO_12.out hb; replace HO648 := Aside0.mk (Kd.V_elder' (mvV_ HO648.out) (Kd.R_base ho0) hb); replace HO652 := mbR_ HO652.out hb; replace HO657 := Aside0.mk (Kd.V_elder' (mvV_ HO657.out) (Kd.R_base ho0) hb); replace HB := Aside0.mk (below_step (bq0_ HB.out) hb); (try clear hb); (try clear ho0); have hcv74 := own_string (P := Try.prog) Try.underlying31 Try.underlying5 Try.underlying9 (Kd.own_of_R HO_12.out); have hcv75 := own_string (P := Try.prog) Try.underlying31 Try.underlying5 Try.underlying9 (Kd.own_of_R HO_8.out); have hcv76 := own_string (P := Try.prog) Try.underlying31 Try.underlying5 Try.underlying9 (Kd.own_of_R HO_10.out)))
                        go_ret
                        exact ⟨by first | rfl | (simp [errW_none, errW_some] <;> rfl) | (simp only [← hji50]; first | rfl | (simp [errW_none, errW_some] <;> rfl)) | (simp [*, errW_none, errW_some] <;> rfl), bq0_ HB.out⟩
                       ·rw [if_neg c68] at H
                        have c68b0 : decide (0 < (ji50)) = false := decide_eq_false c68
                        clear c68
                        obtain rfl := Option.some.inj H
                        have q77 : (1 : Int) ≤ ((l0.length : Int) : Int) := od_
                        obtain ⟨i077, hi077, _, hsz77, _⟩ := info_parts info30
                        have hroom77 : l0.length ≤ c0 := (Kd.V_reads' HO_0.out).2.1
                        have hC77 : Kd.F k30 _ _ A0 l0.length l0 := (Kd.V_at (base := w.heap.size) HO_0.out).2.2
                        have hcut77 := cut_to (P := Try.prog) 22 30 .i64 Try.underlying22 hi077 A0 l0.length c0 1 (by omega) q77 hroom77
                        have hr77 := Kd.F_take (m := 1) hC77 (by omega)
                        have hy77 : y644.length = (1 : Int).toNat := (by rw [Ny644.out, List.length_take]; omega)
                        rw [← Ny644.out] at hr77
                        rw [← hy77] at hcut77
                        have HO648 := Aside0.mk (show Kd.V k30 30 _ w.heap.size _ (.slice A0 y644.length c0) y644 from Kd.V_mk (by omega) hr77)
                        have HC648 := Aside0.mk (show y644.length ≤ c0 from by omega)
                        clear hr77 hC77 hroom77 hi077 hsz77
                        have KY77 := Aside0.mk hy77
                        clear hy77
                        replace q77 := eq_true q77
                        go_wp2_with (first | ((with_reducible refine gate_callee (f := 10) rfl ?_); refine gL_ (some 89) Try.func10 #[.slice A0 y644.length c0] ?_; (with_reducible refine (script_Write.calls kj30 _ _ y644 t649 t650 _ ?side1 ?side2 A44.out).mono ?_); (case side1 => exact mvC_ ((Kd.V_reads' HO648.out).2.2)); (case side2 => exact (Kd.V_reads' HO648.out).2.1); rintro e w78 ⟨v651, rfl, ho0, hb⟩; refine ⟨_, rfl, ?_⟩; have HO652 := Aside0.mk (Kd.R_lower (Kd.R_new' (Kd.R_new' (Kd.R_new' (Kd.R_newM (M := fun k_ => (w.heap.size ≤ k_)) ho0 (below_size (bq0_ HB.out)) (fun k_ h_ => h_)) (Kd.R_lt (mvR_ HO_8.out))) (Kd.R_lt (mvR_ HO_10.out))) (Kd.R_lt (mvR_ HO_12.out))) (below_size (bq0_ HB.out))); replace HO_0 := Aside0.mk (Kd.V_elder' (mvV_ HO_0.out) (Kd.R_base ho0) hb); replace HO_8 := Aside0.mk (Kd.R_elder' (mvR_ HO_8.out) (Kd.R_base ho0) hb); replace HO_10 := Aside0.mk (Kd.R_elder' (mvR_ HO_10.out) (Kd.R_base ho0) hb); replace HO_12 := Aside0.mk (Kd.R_elder' (mvR_ HO_12.out) (Kd.R_base ho0) hb); replace HO648 := Aside0.mk (Kd.V_elder' (mvV_ HO648.out) (Kd.R_base ho0) hb); replace HB := Aside0.mk (below_step (bq0_ HB.out) hb); (try clear hb); (try clear ho0); obtain ⟨Ao79, co79, eo79⟩ := Kd.R_slice HO652.out; subst eo79; have q80 : ((ji50) : Int) ≤ ((t649.length : Int) : Int) := od_; obtain ⟨i080, hi080, _, hsz80, _⟩ := info_parts info5; have hroom80 : t649.length ≤ co79 := (Kd.R_reads' HO652.out).2.1; have hC80 : Kd.F (Kd.int .u8) _ _ Ao79 t649.length t649 := (Kd.V_at (base := w.heap.size) (Kd.V_mono (ok' := (fun k_ => ((((((P0_ k_ ∨ P1_ k_) ∨ w.heap.size ≤ k_) ∧ True) ∧ some k_ ≠ (v625 : Value).ownBlock) ∧ some k_ ≠ (v629 : Value).ownBlock) ∧ some k_ ≠ (v642 : Value).ownBlock))) (Kd.R_V HO652.out) (fun k_ hk => ⟨⟨⟨⟨(.inr (hk.1.1.1.1)), trivial⟩, hk.1.1.2⟩, hk.1.2⟩, hk.2⟩))).2.2; have hcut80 := cut_to (P := Try.prog) 31 5 .i64 Try.underlying31 hi080 Ao79 t649.length co79 (ji50) od_ q80 hroom80; have hr80 := Kd.F_take (m := ((ji50) : Int).toNat) hC80 (by omega); have hy80 : y653.length = ((ji50) : Int).toNat := (by rw [Ny653.out, List.length_take]; omega); rw [← Ny653.out] at hr80; rw [← hy80] at hcut80; have HO657 := Aside0.mk (show Kd.V (Kd.int .u8) 5 _ w.heap.size _ (.slice Ao79 y653.length co79) y653 from Kd.V_mk (by omega) hr80); have HC657 := Aside0.mk (show y653.length ≤ co79 from by omega); clear hr80 hC80 hroom80 hi080 hsz80; have KY80 := Aside0.mk hy80; clear hy80; replace q80 := eq_true q80) | ((with_reducible refine gate_callee (f := 12) rfl ?_); refine gL_ (some 108) Try.func12 #[.slice Ao79 y653.length co79] ?_; (with_reducible refine (script_Read.calls kj30 _ _ y653 t658 t659 _ ?side1 ?side2 A53.out).mono ?_); (case side1 => exact mvC_ ((Kd.V_reads' HO657.out).2.2)); (case side2 => exact (Kd.V_reads' HO657.out).2.1); rintro e w81 ⟨v660, rfl, ho0, hb⟩; refine ⟨_, rfl, ?_⟩; have HO661 := Aside0.mk (Kd.N_lower (Kd.N_mono (ok' := fun k_ => ((P0_ k_ ∨ P1_ k_) ∨ w.heap.size ≤ k_) ∧ some k_ ≠ (v625 : Value).ownBlock ∧ some k_ ≠ (v629 : Value).ownBlock ∧ some k_ ≠ (v642 : Value).ownBlock ∧ some k_ ≠ (.slice Ao79 t649.length co79 : Value).ownBlock) (Kd.R_N (Kd.R_bound ho0)) (fun k_ hk_ => ⟨(.inr (Nat.le_trans (below_size (bq0_ HB.out)) hk_.2.1)), (Kd.fresh' (Kd.R_lt (mvR_ HO_8.out)) k_ hk_.2.1), (Kd.fresh' (Kd.R_lt (mvR_ HO_10.out)) k_ hk_.2.1), (Kd.fresh' (Kd.R_lt (mvR_ HO_12.out)) k_ hk_.2.1), (Kd.fresh' (Kd.R_lt (mvR_ HO652.out)) k_ hk_.2.1)⟩)) (below_size (bq0_ HB.out))); replace HO_0 := Aside0.mk (Kd.V_elder' (mvV_ HO_0.out) (Kd.R_base ho0) hb); replace HO_8 := mbR_ HO_8.out hb; replace HO_10 := mbR_ HO_10.out hb; replace HO_12 := mbR_ HO_12.out hb; replace HO648 := Aside0.mk (Kd.V_elder' (mvV_ HO648.out) (Kd.R_base ho0) hb); replace HO652 := mbR_ HO652.out hb; replace HO657 := Aside0.mk (Kd.V_elder' (mvV_ HO657.out) (Kd.R_base ho0) hb); replace HB := Aside0.mk (below_step (bq0_ HB.out) hb); (try clear hb); (try clear ho0); have hcv82 := own_string (P := Try.prog) Try.underlying31 Try.underlying5 Try.underlying9 (Kd.own_of_R HO_12.out); have hcv83 := own_string (P := Try.prog) Try.underlying31 Try.underlying5 Try.underlying9 (Kd.own_of_R HO_8.out); have hcv84 := own_string (P := Try.prog) Try.underlying31 Try.underlying5 Try.underlying9 (Kd.own_of_R HO_10.out)))
                        go_ret
                        exact ⟨by first | rfl | (simp [errW_none, errW_some] <;> rfl) | (simp only [← hji50]; first | rfl | (simp [errW_none, errW_some] <;> rfl)) | (simp [*, errW_none, errW_some] <;> rfl), bq0_ HB.out⟩
                     ·rw [if_neg c58] at H
                      have c58b0 : ((ji50) == 0) = false := beq_eq_false_iff_ne.mpr c58
                      have c58b1 : ((ji50) != 0) = true := bne_iff_ne.mpr c58
                      by_cases c85 : (ji50) > 0
                      ·rw [if_pos c85] at H
                       have c85b0 : decide (0 < (ji50)) = true := decide_eq_true c85
                       clear c85
                       obtain rfl := Option.some.inj H
                       have q86 : (1 : Int) ≤ ((l0.length : Int) : Int) := od_
                       obtain ⟨i086, hi086, _, hsz86, _⟩ := info_parts info30
                       have hroom86 : l0.length ≤ c0 := (Kd.V_reads' HO_0.out).2.1
                       have hC86 : Kd.F k30 _ _ A0 l0.length l0 := (Kd.V_at (base := w.heap.size) HO_0.out).2.2
                       have hcut86 := cut_to (P := Try.prog) 22 30 .i64 Try.underlying22 hi086 A0 l0.length c0 1 (by omega) q86 hroom86
                       have hr86 := Kd.F_take (m := 1) hC86 (by omega)
                       have hy86 : y644.length = (1 : Int).toNat := (by rw [Ny644.out, List.length_take]; omega)
                       rw [← Ny644.out] at hr86
                       rw [← hy86] at hcut86
                       have HO648 := Aside0.mk (show Kd.V k30 30 _ w.heap.size _ (.slice A0 y644.length c0) y644 from Kd.V_mk (by omega) hr86)
                       have HC648 := Aside0.mk (show y644.length ≤ c0 from by omega)
                       clear hr86 hC86 hroom86 hi086 hsz86
                       have KY86 := Aside0.mk hy86
                       clear hy86
                       replace q86 := eq_true q86
                       go_wp2_with (first | ((with_reducible refine gate_callee (f := 10) rfl ?_); refine gL_ (some 89) Try.func10 #[.slice A0 y644.length c0] ?_; (with_reducible refine (script_Write.calls kj30 _ _ y644 t649 t650 _ ?side1 ?side2 A44.out).mono ?_); (case side1 => exact mvC_ ((Kd.V_reads' HO648.out).2.2)); (case side2 => exact (Kd.V_reads' HO648.out).2.1); rintro e w87 ⟨v651, rfl, ho0, hb⟩; refine ⟨_, rfl, ?_⟩; have HO652 := Aside0.mk (Kd.R_lower (Kd.R_new' (Kd.R_new' (Kd.R_new' (Kd.R_newM (M := fun k_ => (w.heap.size ≤ k_)) ho0 (below_size (bq0_ HB.out)) (fun k_ h_ => h_)) (Kd.R_lt (mvR_ HO_8.out))) (Kd.R_lt (mvR_ HO_10.out))) (Kd.R_lt (mvR_ HO_12.out))) (below_size (bq0_ HB.out))); replace HO_0 := Aside0.mk (Kd.V_elder' (mvV_ HO_0.out) (Kd.R_base ho0) hb); replace HO_8 := Aside0.mk (Kd.R_elder' (mvR_ HO_8.out) (Kd.R_base ho0) hb); replace HO_10 := Aside0.mk (Kd.R_elder' (mvR_ HO_10.out) (Kd.R_base ho0) hb); replace HO_12 := Aside0.mk (Kd.R_elder' (mvR_ HO_12.out) (Kd.R_base ho0) hb); replace HO648 := Aside0.mk (Kd.V_elder' (mvV_ HO648.out) (Kd.R_base ho0) hb); replace HB := Aside0.mk (below_step (bq0_ HB.out) hb); (try clear hb); (try clear ho0); obtain ⟨Ao88, co88, eo88⟩ := Kd.R_slice HO652.out; subst eo88; have q89 : ((ji50) : Int) ≤ ((t649.length : Int) : Int) := od_; obtain ⟨i089, hi089, _, hsz89, _⟩ := info_parts info5; have hroom89 : t649.length ≤ co88 := (Kd.R_reads' HO652.out).2.1; have hC89 : Kd.F (Kd.int .u8) _ _ Ao88 t649.length t649 := (Kd.V_at (base := w.heap.size) (Kd.V_mono (ok' := (fun k_ => ((((((P0_ k_ ∨ P1_ k_) ∨ w.heap.size ≤ k_) ∧ True) ∧ some k_ ≠ (v625 : Value).ownBlock) ∧ some k_ ≠ (v629 : Value).ownBlock) ∧ some k_ ≠ (v642 : Value).ownBlock))) (Kd.R_V HO652.out) (fun k_ hk => ⟨⟨⟨⟨(.inr (hk.1.1.1.1)), trivial⟩, hk.1.1.2⟩, hk.1.2⟩, hk.2⟩))).2.2; have hcut89 := cut_to (P := Try.prog) 31 5 .i64 Try.underlying31 hi089 Ao88 t649.length co88 (ji50) od_ q89 hroom89; have hr89 := Kd.F_take (m := ((ji50) : Int).toNat) hC89 (by omega); have hy89 : y653.length = ((ji50) : Int).toNat := (by rw [Ny653.out, List.length_take]; omega); rw [← Ny653.out] at hr89; rw [← hy89] at hcut89; have HO657 := Aside0.mk (show Kd.V (Kd.int .u8) 5 _ w.heap.size _ (.slice Ao88 y653.length co88) y653 from Kd.V_mk (by omega) hr89); have HC657 := Aside0.mk (show y653.length ≤ co88 from by omega); clear hr89 hC89 hroom89 hi089 hsz89; have KY89 := Aside0.mk hy89; clear hy89; replace q89 := eq_true q89) | ((with_reducible refine gate_callee (f := 12) rfl ?_); refine gL_ (some 108) Try.func12 #[.slice Ao88 y653.length co88] ?_; (with_reducible refine (script_Read.calls kj30 _ _ y653 t658 t659 _ ?side1 ?side2 A53.out).mono ?_); (case side1 => exact mvC_ ((Kd.V_reads' HO657.out).2.2)); (case side2 => exact (Kd.V_reads' HO657.out).2.1); rintro e w90 ⟨v660, rfl, ho0, hb⟩; refine ⟨_, rfl, ?_⟩; have HO661 := Aside0.mk (Kd.N_lower (Kd.N_mono (ok' := fun k_ => ((P0_ k_ ∨ P1_ k_) ∨ w.heap.size ≤ k_) ∧ some k_ ≠ (v625 : Value).ownBlock ∧ some k_ ≠ (v629 : Value).ownBlock ∧ some k_ ≠ (v642 : Value).ownBlock ∧ some k_ ≠ (.slice Ao88 t649.length co88 : Value).ownBlock) (Kd.R_N (Kd.R_bound ho0)) (fun k_ hk_ => ⟨(.inr (Nat.le_trans (below_size (bq0_ HB.out)) hk_.2.1)), (Kd.fresh' (Kd.R_lt (mvR_ HO_8.out)) k_ hk_.2.1), (Kd.fresh' (Kd.R_lt (mvR_ HO_10.out)) k_ hk_.2.1), (Kd.fresh' (Kd.R_lt (mvR_ HO_12.out)) k_ hk_.2.1), (Kd.fresh' (Kd.R_lt (mvR_ HO652.out)) k_ hk_.2.1)⟩)) (below_size (bq0_ HB.out))); replace HO_0 := Aside0.mk (Kd.V_elder' (mvV_ HO_0.out) (Kd.R_base ho0) hb); replace HO_8 := mbR_ HO_8.out hb; replace HO_10 := mbR_ HO_10.out hb; replace HO_12 := mbR_ HO_12.out hb; replace HO648 := Aside0.mk (Kd.V_elder' (mvV_ HO648.out) (Kd.R_base ho0) hb); replace HO652 := mbR_ HO652.out hb; replace HO657 := Aside0.mk (Kd.V_elder' (mvV_ HO657.out) (Kd.R_base ho0) hb); replace HB := Aside0.mk (below_step (bq0_ HB.out) hb); (try clear hb); (try clear ho0); have hcv91 := own_string (P := Try.prog) Try.underlying31 Try.underlying5 Try.underlying9 (Kd.own_of_R HO_12.out); have hcv92 := own_string (P := Try.prog) Try.underlying31 Try.underlying5 Try.underlying9 (Kd.own_of_R HO_8.out); have hcv93 := own_string (P := Try.prog) Try.underlying31 Try.underlying5 Try.underlying9 (Kd.own_of_R HO_10.out)))
                       go_ret
                       exact ⟨by first | rfl | (simp [errW_none, errW_some] <;> rfl) | (simp only [← hji50]; first | rfl | (simp [errW_none, errW_some] <;> rfl)) | (simp [*, errW_none, errW_some] <;> rfl), bq0_ HB.out⟩
                      ·rw [if_neg c85] at H
                       have c85b0 : decide (0 < (ji50)) = false := decide_eq_false c85
                       clear c85
                       obtain rfl := Option.some.inj H
                       have q94 : (1 : Int) ≤ ((l0.length : Int) : Int) := od_
                       obtain ⟨i094, hi094, _, hsz94, _⟩ := info_parts info30
                       have hroom94 : l0.length ≤ c0 := (Kd.V_reads' HO_0.out).2.1
                       have hC94 : Kd.F k30 _ _ A0 l0.length l0 := (Kd.V_at (base := w.heap.size) HO_0.out).2.2
                       have hcut94 := cut_to (P := Try.prog) 22 30 .i64 Try.underlying22 hi094 A0 l0.length c0 1 (by omega) q94 hroom94
                       have hr94 := Kd.F_take (m := 1) hC94 (by omega)
                       have hy94 : y644.length = (1 : Int).toNat := (by rw [Ny644.out, List.length_take]; omega)
                       rw [← Ny644.out] at hr94
                       rw [← hy94] at hcut94
                       have HO648 := Aside0.mk (show Kd.V k30 30 _ w.heap.size _ (.slice A0 y644.length c0) y644 from Kd.V_mk (by omega) hr94)
                       have HC648 := Aside0.mk (show y644.length ≤ c0 from by omega)
                       clear hr94 hC94 hroom94 hi094 hsz94
                       have KY94 := Aside0.mk hy94
                       clear hy94
                       replace q94 := eq_true q94
                       go_wp2_with (first | ((with_reducible refine gate_callee (f := 10) rfl ?_); refine gL_ (some 89) Try.func10 #[.slice A0 y644.length c0] ?_; (with_reducible refine (script_Write.calls kj30 _ _ y644 t649 t650 _ ?side1 ?side2 A44.out).mono ?_); (case side1 => exact mvC_ ((Kd.V_reads' HO648.out).2.2)); (case side2 => exact (Kd.V_reads' HO648.out).2.1); rintro e w95 ⟨v651, rfl, ho0, hb⟩; refine ⟨_, rfl, ?_⟩; have HO652 := Aside0.mk (Kd.R_lower (Kd.R_new' (Kd.R_new' (Kd.R_new' (Kd.R_newM (M := fun k_ => (w.heap.size ≤ k_)) ho0 (below_size (bq0_ HB.out)) (fun k_ h_ => h_)) (Kd.R_lt (mvR_ HO_8.out))) (Kd.R_lt (mvR_ HO_10.out))) (Kd.R_lt (mvR_ HO_12.out))) (below_size (bq0_ HB.out))); replace HO_0 := Aside0.mk (Kd.V_elder' (mvV_ HO_0.out) (Kd.R_base ho0) hb); replace HO_8 := Aside0.mk (Kd.R_elder' (mvR_ HO_8.out) (Kd.R_base ho0) hb); replace HO_10 := Aside0.mk (Kd.R_elder' (mvR_ HO_10.out) (Kd.R_base ho0) hb); replace HO_12 := Aside0.mk (Kd.R_elder' (mvR_ HO_12.out) (Kd.R_base ho0) hb); replace HO648 := Aside0.mk (Kd.V_elder' (mvV_ HO648.out) (Kd.R_base ho0) hb); replace HB := Aside0.mk (below_step (bq0_ HB.out) hb); (try clear hb); (try clear ho0); obtain ⟨Ao96, co96, eo96⟩ := Kd.R_slice HO652.out; subst eo96; have q97 : ((ji50) : Int) ≤ ((t649.length : Int) : Int) := od_; obtain ⟨i097, hi097, _, hsz97, _⟩ := info_parts info5; have hroom97 : t649.length ≤ co96 := (Kd.R_reads' HO652.out).2.1; have hC97 : Kd.F (Kd.int .u8) _ _ Ao96 t649.length t649 := (Kd.V_at (base := w.heap.size) (Kd.V_mono (ok' := (fun k_ => ((((((P0_ k_ ∨ P1_ k_) ∨ w.heap.size ≤ k_) ∧ True) ∧ some k_ ≠ (v625 : Value).ownBlock) ∧ some k_ ≠ (v629 : Value).ownBlock) ∧ some k_ ≠ (v642 : Value).ownBlock))) (Kd.R_V HO652.out) (fun k_ hk => ⟨⟨⟨⟨(.inr (hk.1.1.1.1)), trivial⟩, hk.1.1.2⟩, hk.1.2⟩, hk.2⟩))).2.2; have hcut97 := cut_to (P := Try.prog) 31 5 .i64 Try.underlying31 hi097 Ao96 t649.length co96 (ji50) od_ q97 hroom97; have hr97 := Kd.F_take (m := ((ji50) : Int).toNat) hC97 (by omega); have hy97 : y653.length = ((ji50) : Int).toNat := (by rw [Ny653.out, List.length_take]; omega); rw [← Ny653.out] at hr97; rw [← hy97] at hcut97; have HO657 := Aside0.mk (show Kd.V (Kd.int .u8) 5 _ w.heap.size _ (.slice Ao96 y653.length co96) y653 from Kd.V_mk (by omega) hr97); have HC657 := Aside0.mk (show y653.length ≤ co96 from by omega); clear hr97 hC97 hroom97 hi097 hsz97; have KY97 := Aside0.mk hy97; clear hy97; replace q97 := eq_true q97) | ((with_reducible refine gate_callee (f := 12) rfl ?_); refine gL_ (some 108) Try.func12 #[.slice Ao96 y653.length co96] ?_; (with_reducible refine (script_Read.calls kj30 _ _ y653 t658 t659 _ ?side1 ?side2 A53.out).mono ?_); (case side1 => exact mvC_ ((Kd.V_reads' HO657.out).2.2)); (case side2 => exact (Kd.V_reads' HO657.out).2.1); rintro e w98 ⟨v660, rfl, ho0, hb⟩; refine ⟨_, rfl, ?_⟩; have HO661 := Aside0.mk (Kd.N_lower (Kd.N_mono (ok' := fun k_ => ((P0_ k_ ∨ P1_ k_) ∨ w.heap.size ≤ k_) ∧ some k_ ≠ (v625 : Value).ownBlock ∧ some k_ ≠ (v629 : Value).ownBlock ∧ some k_ ≠ (v642 : Value).ownBlock ∧ some k_ ≠ (.slice Ao96 t649.length co96 : Value).ownBlock) (Kd.R_N (Kd.R_bound ho0)) (fun k_ hk_ => ⟨(.inr (Nat.le_trans (below_size (bq0_ HB.out)) hk_.2.1)), (Kd.fresh' (Kd.R_lt (mvR_ HO_8.out)) k_ hk_.2.1), (Kd.fresh' (Kd.R_lt (mvR_ HO_10.out)) k_ hk_.2.1), (Kd.fresh' (Kd.R_lt (mvR_ HO_12.out)) k_ hk_.2.1), (Kd.fresh' (Kd.R_lt (mvR_ HO652.out)) k_ hk_.2.1)⟩)) (below_size (bq0_ HB.out))); replace HO_0 := Aside0.mk (Kd.V_elder' (mvV_ HO_0.out) (Kd.R_base ho0) hb); replace HO_8 := mbR_ HO_8.out hb; replace HO_10 := mbR_ HO_10.out hb; replace HO_12 := mbR_ HO_12.out hb; replace HO648 := Aside0.mk (Kd.V_elder' (mvV_ HO648.out) (Kd.R_base ho0) hb); replace HO652 := mbR_ HO652.out hb; replace HO657 := Aside0.mk (Kd.V_elder' (mvV_ HO657.out) (Kd.R_base ho0) hb); replace HB := Aside0.mk (below_step (bq0_ HB.out) hb); (try clear hb); (try clear ho0); have hcv99 := own_string (P := Try.prog) Try.underlying31 Try.underlying5 Try.underlying9 (Kd.own_of_R HO_12.out); have hcv100 := own_string (P := Try.prog) Try.underlying31 Try.underlying5 Try.underlying9 (Kd.own_of_R HO_8.out); have hcv101 := own_string (P := Try.prog) Try.underlying31 Try.underlying5 Try.underlying9 (Kd.own_of_R HO_10.out)))
                       go_ret
                       exact ⟨by first | rfl | (simp [errW_none, errW_some] <;> rfl) | (simp only [← hji50]; first | rfl | (simp [errW_none, errW_some] <;> rfl)) | (simp [*, errW_none, errW_some] <;> rfl), bq0_ HB.out⟩
                    ·rw [if_neg c57] at H
                     have c57b0 : ((strOfNums t640).toList == ((strOfNums t623) ++ (strOfNums t627)).toList) = false := beq_eq_false_iff_ne.mpr c57
                     have c57b1 : ((strOfNums t640).toList != ((strOfNums t623) ++ (strOfNums t627)).toList) = true := bne_iff_ne.mpr c57
                     obtain rfl := Option.some.inj H
                     have q102 : (1 : Int) ≤ ((l0.length : Int) : Int) := od_
                     obtain ⟨i0102, hi0102, _, hsz102, _⟩ := info_parts info30
                     have hroom102 : l0.length ≤ c0 := (Kd.V_reads' HO_0.out).2.1
                     have hC102 : Kd.F k30 _ _ A0 l0.length l0 := (Kd.V_at (base := w.heap.size) HO_0.out).2.2
                     have hcut102 := cut_to (P := Try.prog) 22 30 .i64 Try.underlying22 hi0102 A0 l0.length c0 1 (by omega) q102 hroom102
                     have hr102 := Kd.F_take (m := 1) hC102 (by omega)
                     have hy102 : y644.length = (1 : Int).toNat := (by rw [Ny644.out, List.length_take]; omega)
                     rw [← Ny644.out] at hr102
                     rw [← hy102] at hcut102
                     have HO648 := Aside0.mk (show Kd.V k30 30 _ w.heap.size _ (.slice A0 y644.length c0) y644 from Kd.V_mk (by omega) hr102)
                     have HC648 := Aside0.mk (show y644.length ≤ c0 from by omega)
                     clear hr102 hC102 hroom102 hi0102 hsz102
                     have KY102 := Aside0.mk hy102
                     clear hy102
                     replace q102 := eq_true q102
                     go_wp2_with (first | ((with_reducible refine gate_callee (f := 10) rfl ?_); refine gL_ (some 89) Try.func10 #[.slice A0 y644.length c0] ?_; (with_reducible refine (script_Write.calls kj30 _ _ y644 t649 t650 _ ?side1 ?side2 A44.out).mono ?_); (case side1 => exact mvC_ ((Kd.V_reads' HO648.out).2.2)); (case side2 => exact (Kd.V_reads' HO648.out).2.1); rintro e w103 ⟨v651, rfl, ho0, hb⟩; refine ⟨_, rfl, ?_⟩; have HO652 := Aside0.mk (Kd.R_lower (Kd.R_new' (Kd.R_new' (Kd.R_new' (Kd.R_newM (M := fun k_ => (w.heap.size ≤ k_)) ho0 (below_size (bq0_ HB.out)) (fun k_ h_ => h_)) (Kd.R_lt (mvR_ HO_8.out))) (Kd.R_lt (mvR_ HO_10.out))) (Kd.R_lt (mvR_ HO_12.out))) (below_size (bq0_ HB.out))); replace HO_0 := Aside0.mk (Kd.V_elder' (mvV_ HO_0.out) (Kd.R_base ho0) hb); replace HO_8 := Aside0.mk (Kd.R_elder' (mvR_ HO_8.out) (Kd.R_base ho0) hb); replace HO_10 := Aside0.mk (Kd.R_elder' (mvR_ HO_10.out) (Kd.R_base ho0) hb); replace HO_12 := Aside0.mk (Kd.R_elder' (mvR_ HO_12.out) (Kd.R_base ho0) hb); replace HO648 := Aside0.mk (Kd.V_elder' (mvV_ HO648.out) (Kd.R_base ho0) hb); replace HB := Aside0.mk (below_step (bq0_ HB.out) hb); (try clear hb); (try clear ho0); obtain ⟨Ao104, co104, eo104⟩ := Kd.R_slice HO652.out; subst eo104; have q105 : ((ji50) : Int) ≤ ((t649.length : Int) : Int) := od_; obtain ⟨i0105, hi0105, _, hsz105, _⟩ := info_parts info5; have hroom105 : t649.length ≤ co104 := (Kd.R_reads' HO652.out).2.1; have hC105 : Kd.F (Kd.int .u8) _ _ Ao104 t649.length t649 := (Kd.V_at (base := w.heap.size) (Kd.V_mono (ok' := (fun k_ => ((((((P0_ k_ ∨ P1_ k_) ∨ w.heap.size ≤ k_) ∧ True) ∧ some k_ ≠ (v625 : Value).ownBlock) ∧ some k_ ≠ (v629 : Value).ownBlock) ∧ some k_ ≠ (v642 : Value).ownBlock))) (Kd.R_V HO652.out) (fun k_ hk => ⟨⟨⟨⟨(.inr (hk.1.1.1.1)), trivial⟩, hk.1.1.2⟩, hk.1.2⟩, hk.2⟩))).2.2; have hcut105 := cut_to (P := Try.prog) 31 5 .i64 Try.underlying31 hi0105 Ao104 t649.length co104 (ji50) od_ q105 hroom105; have hr105 := Kd.F_take (m := ((ji50) : Int).toNat) hC105 (by omega); have hy105 : y653.length = ((ji50) : Int).toNat := (by rw [Ny653.out, List.length_take]; omega); rw [← Ny653.out] at hr105; rw [← hy105] at hcut105; have HO657 := Aside0.mk (show Kd.V (Kd.int .u8) 5 _ w.heap.size _ (.slice Ao104 y653.length co104) y653 from Kd.V_mk (by omega) hr105); have HC657 := Aside0.mk (show y653.length ≤ co104 from by omega); clear hr105 hC105 hroom105 hi0105 hsz105; have KY105 := Aside0.mk hy105; clear hy105; replace q105 := eq_true q105) | ((with_reducible refine gate_callee (f := 12) rfl ?_); refine gL_ (some 108) Try.func12 #[.slice Ao104 y653.length co104] ?_; (with_reducible refine (script_Read.calls kj30 _ _ y653 t658 t659 _ ?side1 ?side2 A53.out).mono ?_); (case side1 => exact mvC_ ((Kd.V_reads' HO657.out).2.2)); (case side2 => exact (Kd.V_reads' HO657.out).2.1); rintro e w106 ⟨v660, rfl, ho0, hb⟩; refine ⟨_, rfl, ?_⟩; have HO661 := Aside0.mk (Kd.N_lower (Kd.N_mono (ok' := fun k_ => ((P0_ k_ ∨ P1_ k_) ∨ w.heap.size ≤ k_) ∧ some k_ ≠ (v625 : Value).ownBlock ∧ some k_ ≠ (v629 : Value).ownBlock ∧ some k_ ≠ (v642 : Value).ownBlock ∧ some k_ ≠ (.slice Ao104 t649.length co104 : Value).ownBlock) (Kd.R_N (Kd.R_bound ho0)) (fun k_ hk_ => ⟨(.inr (Nat.le_trans (below_size (bq0_ HB.out)) hk_.2.1)), (Kd.fresh' (Kd.R_lt (mvR_ HO_8.out)) k_ hk_.2.1), (Kd.fresh' (Kd.R_lt (mvR_ HO_10.out)) k_ hk_.2.1), (Kd.fresh' (Kd.R_lt (mvR_ HO_12.out)) k_ hk_.2.1), (Kd.fresh' (Kd.R_lt (mvR_ HO652.out)) k_ hk_.2.1)⟩)) (below_size (bq0_ HB.out))); replace HO_0 := Aside0.mk (Kd.V_elder' (mvV_ HO_0.out) (Kd.R_base ho0) hb); replace HO_8 := mbR_ HO_8.out hb; replace HO_10 := mbR_ HO_10.out hb; replace HO_12 := mbR_ HO_12.out hb; replace HO648 := Aside0.mk (Kd.V_elder' (mvV_ HO648.out) (Kd.R_base ho0) hb); replace HO652 := mbR_ HO652.out hb; replace HO657 := Aside0.mk (Kd.V_elder' (mvV_ HO657.out) (Kd.R_base ho0) hb); replace HB := Aside0.mk (below_step (bq0_ HB.out) hb); (try clear hb); (try clear ho0); have hcv107 := own_string (P := Try.prog) Try.underlying31 Try.underlying5 Try.underlying9 (Kd.own_of_R HO_12.out); have hcv108 := own_string (P := Try.prog) Try.underlying31 Try.underlying5 Try.underlying9 (Kd.own_of_R HO_8.out); have hcv109 := own_string (P := Try.prog) Try.underlying31 Try.underlying5 Try.underlying9 (Kd.own_of_R HO_10.out)))
                     go_ret
                     exact ⟨by first | rfl | (simp [errW_none, errW_some] <;> rfl) | (simp only [← hji50]; first | rfl | (simp [errW_none, errW_some] <;> rfl)) | (simp [*, errW_none, errW_some] <;> rfl), bq0_ HB.out⟩
                   ·rw [if_neg c56] at H
                    exact absurd H (by simp)
                  ·rw [if_neg c55] at H
                   have c55b0 : (t641 == 0) = false := beq_eq_false_iff_ne.mpr c55
                   have c55b1 : (t641 != 0) = true := bne_iff_ne.mpr c55
                   obtain rfl := Option.some.inj H
                   have q110 : (1 : Int) ≤ ((l0.length : Int) : Int) := od_
                   obtain ⟨i0110, hi0110, _, hsz110, _⟩ := info_parts info30
                   have hroom110 : l0.length ≤ c0 := (Kd.V_reads' HO_0.out).2.1
                   have hC110 : Kd.F k30 _ _ A0 l0.length l0 := (Kd.V_at (base := w.heap.size) HO_0.out).2.2
                   have hcut110 := cut_to (P := Try.prog) 22 30 .i64 Try.underlying22 hi0110 A0 l0.length c0 1 (by omega) q110 hroom110
                   have hr110 := Kd.F_take (m := 1) hC110 (by omega)
                   have hy110 : y644.length = (1 : Int).toNat := (by rw [Ny644.out, List.length_take]; omega)
                   rw [← Ny644.out] at hr110
                   rw [← hy110] at hcut110
                   have HO648 := Aside0.mk (show Kd.V k30 30 _ w.heap.size _ (.slice A0 y644.length c0) y644 from Kd.V_mk (by omega) hr110)
                   have HC648 := Aside0.mk (show y644.length ≤ c0 from by omega)
                   clear hr110 hC110 hroom110 hi0110 hsz110
                   have KY110 := Aside0.mk hy110
                   clear hy110
                   replace q110 := eq_true q110
                   go_wp2_with (first | ((with_reducible refine gate_callee (f := 10) rfl ?_); refine gL_ (some 89) Try.func10 #[.slice A0 y644.length c0] ?_; (with_reducible refine (script_Write.calls kj30 _ _ y644 t649 t650 _ ?side1 ?side2 A44.out).mono ?_); (case side1 => exact mvC_ ((Kd.V_reads' HO648.out).2.2)); (case side2 => exact (Kd.V_reads' HO648.out).2.1); rintro e w111 ⟨v651, rfl, ho0, hb⟩; refine ⟨_, rfl, ?_⟩; have HO652 := Aside0.mk (Kd.R_lower (Kd.R_new' (Kd.R_new' (Kd.R_new' (Kd.R_newM (M := fun k_ => (w.heap.size ≤ k_)) ho0 (below_size (bq0_ HB.out)) (fun k_ h_ => h_)) (Kd.R_lt (mvR_ HO_8.out))) (Kd.R_lt (mvR_ HO_10.out))) (Kd.R_lt (mvR_ HO_12.out))) (below_size (bq0_ HB.out))); replace HO_0 := Aside0.mk (Kd.V_elder' (mvV_ HO_0.out) (Kd.R_base ho0) hb); replace HO_8 := Aside0.mk (Kd.R_elder' (mvR_ HO_8.out) (Kd.R_base ho0) hb); replace HO_10 := Aside0.mk (Kd.R_elder' (mvR_ HO_10.out) (Kd.R_base ho0) hb); replace HO_12 := Aside0.mk (Kd.R_elder' (mvR_ HO_12.out) (Kd.R_base ho0) hb); replace HO648 := Aside0.mk (Kd.V_elder' (mvV_ HO648.out) (Kd.R_base ho0) hb); replace HB := Aside0.mk (below_step (bq0_ HB.out) hb); (try clear hb); (try clear ho0); obtain ⟨Ao112, co112, eo112⟩ := Kd.R_slice HO652.out; subst eo112; have q113 : ((ji50) : Int) ≤ ((t649.length : Int) : Int) := od_; obtain ⟨i0113, hi0113, _, hsz113, _⟩ := info_parts info5; have hroom113 : t649.length ≤ co112 := (Kd.R_reads' HO652.out).2.1; have hC113 : Kd.F (Kd.int .u8) _ _ Ao112 t649.length t649 := (Kd.V_at (base := w.heap.size) (Kd.V_mono (ok' := (fun k_ => ((((((P0_ k_ ∨ P1_ k_) ∨ w.heap.size ≤ k_) ∧ True) ∧ some k_ ≠ (v625 : Value).ownBlock) ∧ some k_ ≠ (v629 : Value).ownBlock) ∧ some k_ ≠ (v642 : Value).ownBlock))) (Kd.R_V HO652.out) (fun k_ hk => ⟨⟨⟨⟨(.inr (hk.1.1.1.1)), trivial⟩, hk.1.1.2⟩, hk.1.2⟩, hk.2⟩))).2.2; have hcut113 := cut_to (P := Try.prog) 31 5 .i64 Try.underlying31 hi0113 Ao112 t649.length co112 (ji50) od_ q113 hroom113; have hr113 := Kd.F_take (m := ((ji50) : Int).toNat) hC113 (by omega); have hy113 : y653.length = ((ji50) : Int).toNat := (by rw [Ny653.out, List.length_take]; omega); rw [← Ny653.out] at hr113; rw [← hy113] at hcut113; have HO657 := Aside0.mk (show Kd.V (Kd.int .u8) 5 _ w.heap.size _ (.slice Ao112 y653.length co112) y653 from Kd.V_mk (by omega) hr113); have HC657 := Aside0.mk (show y653.length ≤ co112 from by omega); clear hr113 hC113 hroom113 hi0113 hsz113; have KY113 := Aside0.mk hy113; clear hy113; replace q113 := eq_true q113) | ((with_reducible refine gate_callee (f := 12) rfl ?_); refine gL_ (some 108) Try.func12 #[.slice Ao112 y653.length co112] ?_; (with_reducible refine (script_Read.calls kj30 _ _ y653 t658 t659 _ ?side1 ?side2 A53.out).mono ?_); (case side1 => exact mvC_ ((Kd.V_reads' HO657.out).2.2)); (case side2 => exact (Kd.V_reads' HO657.out).2.1); rintro e w114 ⟨v660, rfl, ho0, hb⟩; refine ⟨_, rfl, ?_⟩; have HO661 := Aside0.mk (Kd.N_lower (Kd.N_mono (ok' := fun k_ => ((P0_ k_ ∨ P1_ k_) ∨ w.heap.size ≤ k_) ∧ some k_ ≠ (v625 : Value).ownBlock ∧ some k_ ≠ (v629 : Value).ownBlock ∧ some k_ ≠ (v642 : Value).ownBlock ∧ some k_ ≠ (.slice Ao112 t649.length co112 : Value).ownBlock) (Kd.R_N (Kd.R_bound ho0)) (fun k_ hk_ => ⟨(.inr (Nat.le_trans (below_size (bq0_ HB.out)) hk_.2.1)), (Kd.fresh' (Kd.R_lt (mvR_ HO_8.out)) k_ hk_.2.1), (Kd.fresh' (Kd.R_lt (mvR_ HO_10.out)) k_ hk_.2.1), (Kd.fresh' (Kd.R_lt (mvR_ HO_12.out)) k_ hk_.2.1), (Kd.fresh' (Kd.R_lt (mvR_ HO652.out)) k_ hk_.2.1)⟩)) (below_size (bq0_ HB.out))); replace HO_0 := Aside0.mk (Kd.V_elder' (mvV_ HO_0.out) (Kd.R_base ho0) hb); replace HO_8 := mbR_ HO_8.out hb; replace HO_10 := mbR_ HO_10.out hb; replace HO_12 := mbR_ HO_12.out hb; replace HO648 := Aside0.mk (Kd.V_elder' (mvV_ HO648.out) (Kd.R_base ho0) hb); replace HO652 := mbR_ HO652.out hb; replace HO657 := Aside0.mk (Kd.V_elder' (mvV_ HO657.out) (Kd.R_base ho0) hb); replace HB := Aside0.mk (below_step (bq0_ HB.out) hb); (try clear hb); (try clear ho0)))
                   go_ret
                   exact ⟨by first | rfl | (simp [errW_none, errW_some] <;> rfl) | (simp only [← hji50]; first | rfl | (simp [errW_none, errW_some] <;> rfl)) | (simp [*, errW_none, errW_some] <;> rfl), bq0_ HB.out⟩
                 ·replace c54 := Bool.eq_false_iff.mpr c54
                  subst c54
                  have H1 : (some false) = some r := by rw [if_neg (show ¬ (false = true) by decide)] at H; exact H
                  clear H
                  have H := H1
                  clear H1
                  obtain rfl := Option.some.inj H
                  have q115 : (1 : Int) ≤ ((l0.length : Int) : Int) := od_
                  obtain ⟨i0115, hi0115, _, hsz115, _⟩ := info_parts info30
                  have hroom115 : l0.length ≤ c0 := (Kd.V_reads' HO_0.out).2.1
                  have hC115 : Kd.F k30 _ _ A0 l0.length l0 := (Kd.V_at (base := w.heap.size) HO_0.out).2.2
                  have hcut115 := cut_to (P := Try.prog) 22 30 .i64 Try.underlying22 hi0115 A0 l0.length c0 1 (by omega) q115 hroom115
                  have hr115 := Kd.F_take (m := 1) hC115 (by omega)
                  have hy115 : y644.length = (1 : Int).toNat := (by rw [Ny644.out, List.length_take]; omega)
                  rw [← Ny644.out] at hr115
                  rw [← hy115] at hcut115
                  have HO648 := Aside0.mk (show Kd.V k30 30 _ w.heap.size _ (.slice A0 y644.length c0) y644 from Kd.V_mk (by omega) hr115)
                  have HC648 := Aside0.mk (show y644.length ≤ c0 from by omega)
                  clear hr115 hC115 hroom115 hi0115 hsz115
                  have KY115 := Aside0.mk hy115
                  clear hy115
                  replace q115 := eq_true q115
                  go_wp2_with (first | ((with_reducible refine gate_callee (f := 10) rfl ?_); refine gL_ (some 89) Try.func10 #[.slice A0 y644.length c0] ?_; (with_reducible refine (script_Write.calls kj30 _ _ y644 t649 t650 _ ?side1 ?side2 A44.out).mono ?_); (case side1 => exact mvC_ ((Kd.V_reads' HO648.out).2.2)); (case side2 => exact (Kd.V_reads' HO648.out).2.1); rintro e w116 ⟨v651, rfl, ho0, hb⟩; refine ⟨_, rfl, ?_⟩; have HO652 := Aside0.mk (Kd.R_lower (Kd.R_new' (Kd.R_new' (Kd.R_new' (Kd.R_newM (M := fun k_ => (w.heap.size ≤ k_)) ho0 (below_size (bq0_ HB.out)) (fun k_ h_ => h_)) (Kd.R_lt (mvR_ HO_8.out))) (Kd.R_lt (mvR_ HO_10.out))) (Kd.R_lt (mvR_ HO_12.out))) (below_size (bq0_ HB.out))); replace HO_0 := Aside0.mk (Kd.V_elder' (mvV_ HO_0.out) (Kd.R_base ho0) hb); replace HO_8 := Aside0.mk (Kd.R_elder' (mvR_ HO_8.out) (Kd.R_base ho0) hb); replace HO_10 := Aside0.mk (Kd.R_elder' (mvR_ HO_10.out) (Kd.R_base ho0) hb); replace HO_12 := Aside0.mk (Kd.R_elder' (mvR_ HO_12.out) (Kd.R_base ho0) hb); replace HO648 := Aside0.mk (Kd.V_elder' (mvV_ HO648.out) (Kd.R_base ho0) hb); replace HB := Aside0.mk (below_step (bq0_ HB.out) hb); (try clear hb); (try clear ho0); obtain ⟨Ao117, co117, eo117⟩ := Kd.R_slice HO652.out; subst eo117; have q118 : ((ji50) : Int) ≤ ((t649.length : Int) : Int) := od_; obtain ⟨i0118, hi0118, _, hsz118, _⟩ := info_parts info5; have hroom118 : t649.length ≤ co117 := (Kd.R_reads' HO652.out).2.1; have hC118 : Kd.F (Kd.int .u8) _ _ Ao117 t649.length t649 := (Kd.V_at (base := w.heap.size) (Kd.V_mono (ok' := (fun k_ => ((((((P0_ k_ ∨ P1_ k_) ∨ w.heap.size ≤ k_) ∧ True) ∧ some k_ ≠ (v625 : Value).ownBlock) ∧ some k_ ≠ (v629 : Value).ownBlock) ∧ some k_ ≠ (v642 : Value).ownBlock))) (Kd.R_V HO652.out) (fun k_ hk => ⟨⟨⟨⟨(.inr (hk.1.1.1.1)), trivial⟩, hk.1.1.2⟩, hk.1.2⟩, hk.2⟩))).2.2; have hcut118 := cut_to (P := Try.prog) 31 5 .i64 Try.underlying31 hi0118 Ao117 t649.length co117 (ji50) od_ q118 hroom118; have hr118 := Kd.F_take (m := ((ji50) : Int).toNat) hC118 (by omega); have hy118 : y653.length = ((ji50) : Int).toNat := (by rw [Ny653.out, List.length_take]; omega); rw [← Ny653.out] at hr118; rw [← hy118] at hcut118; have HO657 := Aside0.mk (show Kd.V (Kd.int .u8) 5 _ w.heap.size _ (.slice Ao117 y653.length co117) y653 from Kd.V_mk (by omega) hr118); have HC657 := Aside0.mk (show y653.length ≤ co117 from by omega); clear hr118 hC118 hroom118 hi0118 hsz118; have KY118 := Aside0.mk hy118; clear hy118; replace q118 := eq_true q118) | ((with_reducible refine gate_callee (f := 12) rfl ?_); refine gL_ (some 108) Try.func12 #[.slice Ao117 y653.length co117] ?_; (with_reducible refine (script_Read.calls kj30 _ _ y653 t658 t659 _ ?side1 ?side2 A53.out).mono ?_); (case side1 => exact mvC_ ((Kd.V_reads' HO657.out).2.2)); (case side2 => exact (Kd.V_reads' HO657.out).2.1); rintro e w119 ⟨v660, rfl, ho0, hb⟩; refine ⟨_, rfl, ?_⟩; have HO661 := Aside0.mk (Kd.N_lower (Kd.N_mono (ok' := fun k_ => ((P0_ k_ ∨ P1_ k_) ∨ w.heap.size ≤ k_) ∧ some k_ ≠ (v625 : Value).ownBlock ∧ some k_ ≠ (v629 : Value).ownBlock ∧ some k_ ≠ (v642 : Value).ownBlock ∧ some k_ ≠ (.slice Ao117 t649.length co117 : Value).ownBlock) (Kd.R_N (Kd.R_bound ho0)) (fun k_ hk_ => ⟨(.inr (Nat.le_trans (below_size (bq0_ HB.out)) hk_.2.1)), (Kd.fresh' (Kd.R_lt (mvR_ HO_8.out)) k_ hk_.2.1), (Kd.fresh' (Kd.R_lt (mvR_ HO_10.out)) k_ hk_.2.1), (Kd.fresh' (Kd.R_lt (mvR_ HO_12.out)) k_ hk_.2.1), (Kd.fresh' (Kd.R_lt (mvR_ HO652.out)) k_ hk_.2.1)⟩)) (below_size (bq0_ HB.out))); replace HO_0 := Aside0.mk (Kd.V_elder' (mvV_ HO_0.out) (Kd.R_base ho0) hb); replace HO_8 := mbR_ HO_8.out hb; replace HO_10 := mbR_ HO_10.out hb; replace HO_12 := mbR_ HO_12.out hb; replace HO648 := Aside0.mk (Kd.V_elder' (mvV_ HO648.out) (Kd.R_base ho0) hb); replace HO652 := mbR_ HO652.out hb; replace HO657 := Aside0.mk (Kd.V_elder' (mvV_ HO657.out) (Kd.R_base ho0) hb); replace HB := Aside0.mk (below_step (bq0_ HB.out) hb); (try clear hb); (try clear ho0)))
                  go_ret
                  exact ⟨by first | rfl | (simp [errW_none, errW_some] <;> rfl) | (simp only [← hji50]; first | rfl | (simp [errW_none, errW_some] <;> rfl)) | (simp [*, errW_none, errW_some] <;> rfl), bq0_ HB.out⟩
                ·rw [if_neg c52] at H
                 exact absurd H (by simp)
               ·rw [if_neg c51] at H
                exact absurd H (by simp)
             ·rw [if_neg c45] at H
              have c45b0 : (t650 == 0) = false := beq_eq_false_iff_ne.mpr c45
              have c45b1 : (t650 != 0) = true := bne_iff_ne.mpr c45
              obtain rfl := Option.some.inj H
              have q120 : (1 : Int) ≤ ((l0.length : Int) : Int) := od_
              obtain ⟨i0120, hi0120, _, hsz120, _⟩ := info_parts info30
              have hroom120 : l0.length ≤ c0 := (Kd.V_reads' HO_0.out).2.1
              have hC120 : Kd.F k30 _ _ A0 l0.length l0 := (Kd.V_at (base := w.heap.size) HO_0.out).2.2
              have hcut120 := cut_to (P := Try.prog) 22 30 .i64 Try.underlying22 hi0120 A0 l0.length c0 1 (by omega) q120 hroom120
              have hr120 := Kd.F_take (m := 1) hC120 (by omega)
              have hy120 : y644.length = (1 : Int).toNat := (by rw [Ny644.out, List.length_take]; omega)
              rw [← Ny644.out] at hr120
              rw [← hy120] at hcut120
              have HO648 := Aside0.mk (show Kd.V k30 30 _ w.heap.size _ (.slice A0 y644.length c0) y644 from Kd.V_mk (by omega) hr120)
              have HC648 := Aside0.mk (show y644.length ≤ c0 from by omega)
              clear hr120 hC120 hroom120 hi0120 hsz120
              have KY120 := Aside0.mk hy120
              clear hy120
              replace q120 := eq_true q120
              go_wp2_with (first | ((with_reducible refine gate_callee (f := 10) rfl ?_); refine gL_ (some 89) Try.func10 #[.slice A0 y644.length c0] ?_; (with_reducible refine (script_Write.calls kj30 _ _ y644 t649 t650 _ ?side1 ?side2 A44.out).mono ?_); (case side1 => exact mvC_ ((Kd.V_reads' HO648.out).2.2)); (case side2 => exact (Kd.V_reads' HO648.out).2.1); rintro e w121 ⟨v651, rfl, ho0, hb⟩; refine ⟨_, rfl, ?_⟩; have HO652 := Aside0.mk (Kd.R_lower (Kd.R_new' (Kd.R_new' (Kd.R_new' (Kd.R_newM (M := fun k_ => (w.heap.size ≤ k_)) ho0 (below_size (bq0_ HB.out)) (fun k_ h_ => h_)) (Kd.R_lt (mvR_ HO_8.out))) (Kd.R_lt (mvR_ HO_10.out))) (Kd.R_lt (mvR_ HO_12.out))) (below_size (bq0_ HB.out))); replace HO_0 := Aside0.mk (Kd.V_elder' (mvV_ HO_0.out) (Kd.R_base ho0) hb); replace HO_8 := Aside0.mk (Kd.R_elder' (mvR_ HO_8.out) (Kd.R_base ho0) hb); replace HO_10 := Aside0.mk (Kd.R_elder' (mvR_ HO_10.out) (Kd.R_base ho0) hb); replace HO_12 := Aside0.mk (Kd.R_elder' (mvR_ HO_12.out) (Kd.R_base ho0) hb); replace HO648 := Aside0.mk (Kd.V_elder' (mvV_ HO648.out) (Kd.R_base ho0) hb); replace HB := Aside0.mk (below_step (bq0_ HB.out) hb); (try clear hb); (try clear ho0)))
              go_ret
              exact ⟨by first | rfl | (simp <;> rfl) | (simp [*] <;> rfl), bq0_ HB.out⟩
            ·rw [if_neg c43] at H
             exact absurd H (by simp)
     ·rw [if_neg c17] at H
      exact absurd H (by simp)
    ·rw [if_neg c16] at H
     exact absurd H (by simp)
def fullerlaw23_ScriptJoins.Pure : Prop := ∀ (l0 : List (S30)) (l1 : List (S30)) (a2 : Int), (l0.length * 136 ≤ 140737488351232 ∧ ∀ x_ ∈ l0, OK30 x_) → (l1.length * 136 ≤ 140737488351232 ∧ ∀ x_ ∈ l1, OK30 x_) → ((Lit.int .u16 a2).wf = true) → ∃ k, fullerlaw23_ScriptJoins.f k l0 l1 a2 = some true
theorem fullerlaw23_ScriptJoins.walk (P : fullerlaw23_ScriptJoins.Pure) (P0_ : Nat → Prop) (A0 : Option Addr) (c0 : Nat) (l0 : List (S30)) (P1_ : Nat → Prop) (A1 : Option Addr) (c1 : Nat) (l1 : List (S30)) (a2 : Int) (w : World) (hr0 : Kd.C k30 w A0 l0.length l0) (hc0 : l0.length ≤ c0) (hr1 : Kd.C k30 w A1 l1.length l1) (hc1 : l1.length ≤ c1) (hg0 : l0.length * 136 ≤ 140737488351232 ∧ ∀ x_ ∈ l0, OK30 x_) (hg1 : l1.length * 136 ≤ 140737488351232 ∧ ∀ x_ ∈ l1, OK30 x_) (hg2 : (Lit.int .u16 a2).wf = true) :
  Calls Try.prog 5 #[.slice A0 l0.length c0, .slice A1 l1.length c1, .int .u16 a2] w fun e w' => e = .returned (.bool true) ∧ Below w.heap.size w w' := by
 obtain ⟨k, h⟩ := P l0 l1 a2 hg0 hg1 hg2
 refine (fullerlaw23_ScriptJoins.calls k (fun k_ => k_ < w.heap.size) _ _ l0 (fun k_ => k_ < w.heap.size) _ _ l1 a2 true w (Kd.V_mk hc0 (Kd.C_F k30_heap hr0)) (Kd.V_mk hc1 (Kd.C_F k30_heap hr1)) h).mono ?_
 rintro e w' ⟨rfl, hd⟩
 exact ⟨rfl, hd⟩
end Go.Proofs.Ytjcgadfmhfhbgaa.A
