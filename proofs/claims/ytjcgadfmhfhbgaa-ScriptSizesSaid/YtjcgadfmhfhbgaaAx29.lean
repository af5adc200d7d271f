/- Lean functions that answer as the Go functions do, and the proofs that they do; no conditions. Written by this session's own driver: a scratch copy of the kit's print with the session's additions (wip/xprint). -/
import Derived.Test.YtjcgadfmhfhbgaaAx0
import Derived.Test.YtjcgadfmhfhbgaaAx4
import Derived.Test.YtjcgadfmhfhbgaaAx6
import Derived.Test.YtjcgadfmhfhbgaaAx7
import Derived.Test.YtjcgadfmhfhbgaaAx15
namespace Go.Proofs.Ytjcgadfmhfhbgaa.A
open Go.RowKit Go.Proofs.YtjcgadfmhfhbgaaW.PrintWords Go.Proofs.YtjcgadfmhfhbgaaW.PrintLast Go.Proofs.YtjcgadfmhfhbgaaW.PrintMore
attribute [local go_sem] max2_int min2_int max_two min_two max_three min_three max_four min_four
set_option linter.unusedVariables false
set_option linter.unusedSimpArgs false
def L6_0 : Array Bool := #[false, false, false, false, false, false, false, false, false, false, false, false, false, false, false, false, false, false, false, false, false]
def L6_1 : Array Bool := #[true, false, false, false, false, false, false, false, false, false, false, false, false, false, false, false, false, false, false, false, false]
def L6_2 : Array Bool := #[true, true, false, false, false, false, false, false, false, false, false, false, false, false, false, false, false, false, false, false, false]
def L6_3 : Array Bool := #[true, true, true, false, false, false, false, false, false, false, false, false, false, false, false, false, false, false, false, false, false]
def L6_4 : Array Bool := #[true, true, true, true, false, false, false, false, false, false, false, false, false, false, false, false, false, false, false, false, false]
def L6_5 : Array Bool := #[true, true, true, true, true, false, false, false, false, false, false, false, false, false, false, false, false, false, false, false, false]
def L6_6 : Array Bool := #[true, true, true, true, true, true, false, false, false, false, false, false, false, false, false, false, false, false, false, false, false]
def L6_7 : Array Bool := #[true, true, true, true, true, true, true, false, false, false, false, false, false, false, false, false, false, false, false, false, false]
def L6_8 : Array Bool := #[true, true, true, true, true, true, true, true, false, false, false, false, false, false, false, false, false, false, false, false, false]
def L6_9 : Array Bool := #[true, true, true, true, true, true, true, true, true, false, false, false, false, false, false, false, false, false, false, false, false]
def L6_10 : Array Bool := #[true, true, true, true, true, true, true, true, true, true, false, false, false, false, false, false, false, false, false, false, false]
def L6_11 : Array Bool := #[true, true, true, true, true, true, true, true, true, true, false, false, true, false, false, false, false, false, false, false, false]
def L6_12 : Array Bool := #[true, true, true, true, true, true, true, true, true, true, true, false, true, false, false, false, false, false, false, false, false]
def L6_13 : Array Bool := #[true, true, true, true, true, true, true, true, true, true, true, true, true, false, false, false, false, false, false, false, false]
def L6_14 : Array Bool := #[true, true, true, true, true, true, true, true, true, true, true, true, true, true, false, false, false, false, false, false, false]
def L6_15 : Array Bool := #[true, true, true, true, true, true, true, true, true, true, true, true, true, true, true, false, false, false, false, false, false]
def L6_16 : Array Bool := #[true, true, true, true, true, true, true, true, true, true, true, true, true, true, true, true, false, false, false, false, false]
def L6_17 : Array Bool := #[true, true, true, true, true, true, true, true, true, true, true, true, true, true, true, true, true, false, false, false, false]
def L6_18 : Array Bool := #[true, true, true, true, true, true, true, true, true, true, true, true, true, true, true, true, true, true, false, false, false]
def L6_19 : Array Bool := #[true, true, true, true, true, true, true, true, true, true, true, true, true, true, true, true, true, true, true, false, false]
def L6_20 : Array Bool := #[true, true, true, true, true, true, true, true, true, true, true, true, true, true, true, true, true, true, true, true, false]
def L6_21 : Array Bool := #[true, true, true, true, true, true, true, true, true, true, true, true, true, true, true, true, true, true, true, true, true]
mutual
def fullerlaw23_ScriptSizes.j0 : Nat → Bool → List Int → Int → Bool → Int → Int → List (S48) → List Int → List Int → Int → Int → Int → Int → Int → Int → Option (Bool)
 | 0, _, _, _, _, _, _, _, _, _, _, _, _, _, _, _ => none
 | k + 1, x3, x4, x5, x29, x663000, x663001, x663002, x663003, x663004, x663005, x663006, x663007, x663008, x663009, x663010 => if x29 = true then (if x3 = true then ((script_Check.f k x663000 x663001 x663002 x663003 x663004 x663005 x663006 x663007 x663008 x663009 x663010).bind fun t675 => (if t675 = true then (some false) else (some (x5 == 230)))) else (some false)) else (if x663000 ≥ 2 then (if x663000 ≤ 5 then (fullerlaw23_ScriptSizes.j1 k x3 x4 1 true x663000 x663001 x663002 x663003 x663004 x663005 x663006 x663007 x663008 x663009 x663010) else (fullerlaw23_ScriptSizes.j1 k x3 x4 1 (x663000 == 8) x663000 x663001 x663002 x663003 x663004 x663005 x663006 x663007 x663008 x663009 x663010)) else (fullerlaw23_ScriptSizes.j1 k x3 x4 1 (x663000 == 8) x663000 x663001 x663002 x663003 x663004 x663005 x663006 x663007 x663008 x663009 x663010))
def fullerlaw23_ScriptSizes.j1 : Nat → Bool → List Int → Int → Bool → Int → Int → List (S48) → List Int → List Int → Int → Int → Int → Int → Int → Int → Option (Bool)
 | 0, _, _, _, _, _, _, _, _, _, _, _, _, _, _, _ => none
 | k + 1, x3, x4, x6, x52, x663000, x663001, x663002, x663003, x663004, x663005, x663006, x663007, x663008, x663009, x663010 => if x52 = true then (fullerlaw23_ScriptSizes.j2 k x3 x4 2 x663000 x663001 x663002 x663003 x663004 x663005 x663006 x663007 x663008 x663009 x663010) else (fullerlaw23_ScriptSizes.j2 k x3 x4 x6 x663000 x663001 x663002 x663003 x663004 x663005 x663006 x663007 x663008 x663009 x663010)
def fullerlaw23_ScriptSizes.j2 : Nat → Bool → List Int → Int → Int → Int → List (S48) → List Int → List Int → Int → Int → Int → Int → Int → Int → Option (Bool)
 | 0, _, _, _, _, _, _, _, _, _, _, _, _, _, _ => none
 | k + 1, x3, x4, x6, x663000, x663001, x663002, x663003, x663004, x663005, x663006, x663007, x663008, x663009, x663010 => if x663000 = 3 then (fullerlaw23_ScriptSizes.j3 k x3 x4 28 x663000 x663001 x663002 x663003 x663004 x663005 x663006 x663007 x663008 x663009 x663010) else (fullerlaw23_ScriptSizes.j3 k x3 x4 x6 x663000 x663001 x663002 x663003 x663004 x663005 x663006 x663007 x663008 x663009 x663010)
def fullerlaw23_ScriptSizes.j3 : Nat → Bool → List Int → Int → Int → Int → List (S48) → List Int → List Int → Int → Int → Int → Int → Int → Int → Option (Bool)
 | 0, _, _, _, _, _, _, _, _, _, _, _, _, _, _ => none
 | k + 1, x3, x4, x6, x663000, x663001, x663002, x663003, x663004, x663005, x663006, x663007, x663008, x663009, x663010 => if x663000 = 2 then ((wire_Write.f k x663002).bind fun bt676 => ((image_Put.f k ([] : List Int) x663003 x663004).bind fun bt680 => (if bt676.2 = 0 then (if bt680.2 = 0 then (if x3 = true then (if (x4.length : Int) = (wrap64 ((wrap64 (5 + (bt676.1.length : Int))) + (bt680.1.length : Int))) then (if 0 < (x4.length : Int) then (if (wrap64 (rd x4 0)) = x663000 then ((script_Check.f k x663000 x663001 x663002 x663003 x663004 x663005 x663006 x663007 x663008 x663009 x663010).bind fun t685 => (some t685)) else (some false)) else (none)) else (some false)) else (some false)) else (if (bt680.1.length : Int) = 0 then (if x3 = true then (if (x4.length : Int) = (wrap64 ((wrap64 (5 + (bt676.1.length : Int))) + (bt680.1.length : Int))) then (if 0 < (x4.length : Int) then (if (wrap64 (rd x4 0)) = x663000 then ((script_Check.f k x663000 x663001 x663002 x663003 x663004 x663005 x663006 x663007 x663008 x663009 x663010).bind fun t687 => (some t687)) else (some false)) else (none)) else (some false)) else (some false)) else (some false))) else (some false)))) else (if x3 = true then (if (x4.length : Int) = x6 then (if 0 < (x4.length : Int) then (if (wrap64 (rd x4 0)) = x663000 then ((script_Check.f k x663000 x663001 x663002 x663003 x663004 x663005 x663006 x663007 x663008 x663009 x663010).bind fun t689 => (some t689)) else (some false)) else (none)) else (some false)) else (some false))
end
def fullerlaw23_ScriptSizes.f (k : Nat) (a0_0 : Int) (a0_1 : Int) (l0_2 : List (S48)) (l0_3 : List Int) (l0_4 : List Int) (a0_5 : Int) (a0_6 : Int) (a0_7 : Int) (a0_8 : Int) (a0_9 : Int) (a0_10 : Int) : Option (Bool) := (fullerlaw23_awake.f k).bind fun t663 => ((fullerref21_Cmds.f k (([(⟨a0_0, a0_1, l0_2, (⟨l0_3, l0_4⟩ : S26), (⟨a0_5, a0_6, a0_7, a0_8⟩ : S28), a0_9, a0_10⟩ : S30)] : List (S30))) 1).bind fun t667 => (if t667 = true then ((script_Write.f k (([(⟨a0_0, a0_1, l0_2, (⟨l0_3, l0_4⟩ : S26), (⟨a0_5, a0_6, a0_7, a0_8⟩ : S28), a0_9, a0_10⟩ : S30)] : List (S30)))).bind fun bt671 => (if bt671.2 = 0 then (fullerlaw23_ScriptSizes.j0 k t663 bt671.1 bt671.2 ((bt671.1.length : Int) == 0) a0_0 a0_1 l0_2 l0_3 l0_4 a0_5 a0_6 a0_7 a0_8 a0_9 a0_10) else (fullerlaw23_ScriptSizes.j0 k t663 bt671.1 bt671.2 true a0_0 a0_1 l0_2 l0_3 l0_4 a0_5 a0_6 a0_7 a0_8 a0_9 a0_10))) else (some t663)))
def fullerlaw23_ScriptSizes.T18 : Bool × List (List Nat × List Nat) := (true, [([], []), ([0], [0]), ([1], [1]), ([2, 1], [1, 2]), ([1], [1]), ([3, 4, 1], [1, 3, 4]), ([1, 5], [1, 5]), ([6, 1], [6]), ([7], [7]), ([8, 7], [7, 8]), ([9, 7], [7, 9]), ([10, 7], [7, 10]), ([7], [7]), ([12, 7], [7, 12]), ([11, 13, 7], [7, 11, 13]), ([7, 14], [7, 14]), ([15, 7], [15]), ([16], [16]), ([17, 16, 16], [16, 17]), ([16, 18], [16, 18]), ([19, 18, 0, 1, 2, 3, 4, 5, 6, 7, 8, 9, 10, 11, 12, 13, 14, 15, 16, 17, 18, 19], [19])])
def fullerlaw23_ScriptSizes.B18 : List Nat := [0, 1, 3, 7, 3, 31, 63, 127, 255, 511, 1023, 2047, 255, 4351, 16383, 32767, 65535, 131071, 262143, 524287, 1048575]
theorem fullerlaw23_ScriptSizes.tab18 : rtab .any (opsOf Try.f6 18) = fullerlaw23_ScriptSizes.T18 := by kernel_rfl
theorem fullerlaw23_ScriptSizes.bits18 : waitsOk fullerlaw23_ScriptSizes.T18.2 fullerlaw23_ScriptSizes.B18 = true := by kernel_rfl
set_option maxHeartbeats 8000000 in
set_option maxRecDepth 100000 in
theorem fullerlaw23_ScriptSizes.calls (k : Nat) (a0_0 : Int) (a0_1 : Int) (P0_2_ : Nat → Prop) (A0_2 : Option Addr) (c0_2 : Nat) (l0_2 : List (S48)) (P0_3_ : Nat → Prop) (A0_3 : Option Addr) (c0_3 : Nat) (l0_3 : List Int) (P0_4_ : Nat → Prop) (A0_4 : Option Addr) (c0_4 : Nat) (l0_4 : List Int) (a0_5 : Int) (a0_6 : Int) (a0_7 : Int) (a0_8 : Int) (a0_9 : Int) (a0_10 : Int) (r : Bool) (w : World) (hs0_2 : Kd.V k48 48 w w.heap.size (fun k_ => P0_2_ k_) (.slice A0_2 l0_2.length c0_2) l0_2) (hs0_3 : Kd.V (Kd.int .i64) 3 w w.heap.size (fun k_ => P0_3_ k_) (.slice A0_3 l0_3.length c0_3) l0_3) (hs0_4 : Kd.V (Kd.int .i64) 3 w w.heap.size (fun k_ => P0_4_ k_) (.slice A0_4 l0_4.length c0_4) l0_4) (h : fullerlaw23_ScriptSizes.f k a0_0 a0_1 l0_2 l0_3 l0_4 a0_5 a0_6 a0_7 a0_8 a0_9 a0_10 = some r) :
  Calls Try.prog 6 #[.agg #[.int .i64 a0_0, .int .i64 a0_1, .slice A0_2 l0_2.length c0_2, .slice A0_3 l0_3.length c0_3, .slice A0_4 l0_4.length c0_4, .int .i64 a0_5, .int .i64 a0_6, .int .i64 a0_7, .int .i64 a0_8, .int .i64 a0_9, .int .i64 a0_10]] w fun e w' => e = .returned (.bool r) ∧ Below w.heap.size w w' := by
 have hu30 := Try.underlying30
 have hu26 := Try.underlying26
 have HO0_2 := Aside0.mk (show Kd.V k48 48 w w.heap.size (fun k_ => ((P0_2_ k_ ∨ P0_3_ k_ ∨ P0_4_ k_) ∨ w.heap.size ≤ k_)) (.slice A0_2 l0_2.length c0_2) l0_2 from Kd.V_mono hs0_2 (fun k_ hk => .inl (.inl hk)))
 have HO0_3 := Aside0.mk (show Kd.V (Kd.int .i64) 3 w w.heap.size (fun k_ => ((P0_2_ k_ ∨ P0_3_ k_ ∨ P0_4_ k_) ∨ w.heap.size ≤ k_)) (.slice A0_3 l0_3.length c0_3) l0_3 from Kd.V_mono hs0_3 (fun k_ hk => .inl (.inr (.inl hk))))
 have HO0_4 := Aside0.mk (show Kd.V (Kd.int .i64) 3 w w.heap.size (fun k_ => ((P0_2_ k_ ∨ P0_3_ k_ ∨ P0_4_ k_) ∨ w.heap.size ≤ k_)) (.slice A0_4 l0_4.length c0_4) l0_4 from Kd.V_mono hs0_4 (fun k_ hk => .inl (.inr (.inr hk))))
 have HB := Aside0.mk (Below.refl w.heap.size w)
 have H : ((fullerlaw23_awake.f k).bind fun t663 => ((fullerref21_Cmds.f k (([(⟨a0_0, a0_1, l0_2, (⟨l0_3, l0_4⟩ : S26), (⟨a0_5, a0_6, a0_7, a0_8⟩ : S28), a0_9, a0_10⟩ : S30)] : List (S30))) 1).bind fun t667 => (if t667 = true then ((script_Write.f k (([(⟨a0_0, a0_1, l0_2, (⟨l0_3, l0_4⟩ : S26), (⟨a0_5, a0_6, a0_7, a0_8⟩ : S28), a0_9, a0_10⟩ : S30)] : List (S30)))).bind fun bt671 => (if bt671.2 = 0 then (fullerlaw23_ScriptSizes.j0 k t663 bt671.1 bt671.2 ((bt671.1.length : Int) == 0) a0_0 a0_1 l0_2 l0_3 l0_4 a0_5 a0_6 a0_7 a0_8 a0_9 a0_10) else (fullerlaw23_ScriptSizes.j0 k t663 bt671.1 bt671.2 true a0_0 a0_1 l0_2 l0_3 l0_4 a0_5 a0_6 a0_7 a0_8 a0_9 a0_10))) else (some t663)))) = some r := h
 clear h
 replace H := Option.bind_eq_some_iff.mp H
 obtain ⟨t663, A20, H⟩ := H
 replace H : ((fullerref21_Cmds.f k (([(⟨a0_0, a0_1, l0_2, (⟨l0_3, l0_4⟩ : S26), (⟨a0_5, a0_6, a0_7, a0_8⟩ : S28), a0_9, a0_10⟩ : S30)] : List (S30))) 1).bind fun t667 => (if t667 = true then ((script_Write.f k (([(⟨a0_0, a0_1, l0_2, (⟨l0_3, l0_4⟩ : S26), (⟨a0_5, a0_6, a0_7, a0_8⟩ : S28), a0_9, a0_10⟩ : S30)] : List (S30)))).bind fun bt671 => (if bt671.2 = 0 then (fullerlaw23_ScriptSizes.j0 k t663 bt671.1 bt671.2 ((bt671.1.length : Int) == 0) a0_0 a0_1 l0_2 l0_3 l0_4 a0_5 a0_6 a0_7 a0_8 a0_9 a0_10) else (fullerlaw23_ScriptSizes.j0 k t663 bt671.1 bt671.2 true a0_0 a0_1 l0_2 l0_3 l0_4 a0_5 a0_6 a0_7 a0_8 a0_9 a0_10))) else (some t663))) = some r := H
 have A2 := Aside0.mk A20
 clear A20
 obtain ⟨y664, hy664⟩ : ∃ y_ : List (S30), y_ = (([(⟨a0_0, a0_1, l0_2, (⟨l0_3, l0_4⟩ : S26), (⟨a0_5, a0_6, a0_7, a0_8⟩ : S28), a0_9, a0_10⟩ : S30)] : List (S30))) := ⟨_, rfl⟩
 replace H : ((fullerref21_Cmds.f k y664 1).bind fun t667 => (if t667 = true then ((script_Write.f k (([(⟨a0_0, a0_1, l0_2, (⟨l0_3, l0_4⟩ : S26), (⟨a0_5, a0_6, a0_7, a0_8⟩ : S28), a0_9, a0_10⟩ : S30)] : List (S30)))).bind fun bt671 => (if bt671.2 = 0 then (fullerlaw23_ScriptSizes.j0 k t663 bt671.1 bt671.2 ((bt671.1.length : Int) == 0) a0_0 a0_1 l0_2 l0_3 l0_4 a0_5 a0_6 a0_7 a0_8 a0_9 a0_10) else (fullerlaw23_ScriptSizes.j0 k t663 bt671.1 bt671.2 true a0_0 a0_1 l0_2 l0_3 l0_4 a0_5 a0_6 a0_7 a0_8 a0_9 a0_10))) else (some t663))) = some r := by first | (rw [hy664]; with_reducible exact H) | (have H2_ := (Option.bind_some _ _).symm.trans H; rw [hy664]; with_reducible exact H2_) | (have H2_ := (Option.bind_some _ _).symm.trans H; with_reducible exact H2_) | with_reducible exact H | (rw [hy664]; exact H) | exact H
 have Ny664 := Aside0.mk hy664
 clear hy664
 replace H := Option.bind_eq_some_iff.mp H
 obtain ⟨t667, A30, H⟩ := H
 replace H : (if t667 = true then ((script_Write.f k (([(⟨a0_0, a0_1, l0_2, (⟨l0_3, l0_4⟩ : S26), (⟨a0_5, a0_6, a0_7, a0_8⟩ : S28), a0_9, a0_10⟩ : S30)] : List (S30)))).bind fun bt671 => (if bt671.2 = 0 then (fullerlaw23_ScriptSizes.j0 k t663 bt671.1 bt671.2 ((bt671.1.length : Int) == 0) a0_0 a0_1 l0_2 l0_3 l0_4 a0_5 a0_6 a0_7 a0_8 a0_9 a0_10) else (fullerlaw23_ScriptSizes.j0 k t663 bt671.1 bt671.2 true a0_0 a0_1 l0_2 l0_3 l0_4 a0_5 a0_6 a0_7 a0_8 a0_9 a0_10))) else (some t663)) = some r := H
 have A3 := Aside0.mk A30
 clear A30
 by_cases c4 : t667 = true
 ·subst c4
  have H1 : ((script_Write.f k (([(⟨a0_0, a0_1, l0_2, (⟨l0_3, l0_4⟩ : S26), (⟨a0_5, a0_6, a0_7, a0_8⟩ : S28), a0_9, a0_10⟩ : S30)] : List (S30)))).bind fun bt671 => (if bt671.2 = 0 then (fullerlaw23_ScriptSizes.j0 k t663 bt671.1 bt671.2 ((bt671.1.length : Int) == 0) a0_0 a0_1 l0_2 l0_3 l0_4 a0_5 a0_6 a0_7 a0_8 a0_9 a0_10) else (fullerlaw23_ScriptSizes.j0 k t663 bt671.1 bt671.2 true a0_0 a0_1 l0_2 l0_3 l0_4 a0_5 a0_6 a0_7 a0_8 a0_9 a0_10))) = some r := by rw [if_pos rfl] at H; exact H
  clear H
  have H := H1
  clear H1
  obtain ⟨y668, hy668⟩ : ∃ y_ : List (S30), y_ = (([(⟨a0_0, a0_1, l0_2, (⟨l0_3, l0_4⟩ : S26), (⟨a0_5, a0_6, a0_7, a0_8⟩ : S28), a0_9, a0_10⟩ : S30)] : List (S30))) := ⟨_, rfl⟩
  replace H : ((script_Write.f k y668).bind fun bt671 => (if bt671.2 = 0 then (fullerlaw23_ScriptSizes.j0 k t663 bt671.1 bt671.2 ((bt671.1.length : Int) == 0) a0_0 a0_1 l0_2 l0_3 l0_4 a0_5 a0_6 a0_7 a0_8 a0_9 a0_10) else (fullerlaw23_ScriptSizes.j0 k t663 bt671.1 bt671.2 true a0_0 a0_1 l0_2 l0_3 l0_4 a0_5 a0_6 a0_7 a0_8 a0_9 a0_10))) = some r := by first | (rw [hy668]; with_reducible exact H) | (have H2_ := (Option.bind_some _ _).symm.trans H; rw [hy668]; with_reducible exact H2_) | (have H2_ := (Option.bind_some _ _).symm.trans H; with_reducible exact H2_) | with_reducible exact H | (rw [hy668]; exact H) | exact H
  have Ny668 := Aside0.mk hy668
  clear hy668
  replace H := Option.bind_eq_some_iff.mp H
  obtain ⟨⟨t671, t672⟩, A50, H⟩ := H
  replace H : (if t672 = 0 then (fullerlaw23_ScriptSizes.j0 k t663 t671 t672 ((t671.length : Int) == 0) a0_0 a0_1 l0_2 l0_3 l0_4 a0_5 a0_6 a0_7 a0_8 a0_9 a0_10) else (fullerlaw23_ScriptSizes.j0 k t663 t671 t672 true a0_0 a0_1 l0_2 l0_3 l0_4 a0_5 a0_6 a0_7 a0_8 a0_9 a0_10)) = some r := H
  have A5 := Aside0.mk A50
  clear A50
  have HC6 := Aside0.mk H
  clear H
  go_enter Try.func6, Try.ntmps6
  go_upto_region 5 with (first | ((with_reducible refine gate_dst (N := 1) rfl ?_); (try (refine gate_guard (by rfl) ?_; dsimp only)); refine box_event ?hg (N := 1) ?hd (cs := #[.int .i64 a0_0, .int .i64 a0_1, .slice A0_2 l0_2.length c0_2, .slice A0_3 l0_3.length c0_3, .slice A0_4 l0_4.length c0_4, .int .i64 a0_5, .int .i64 a0_6, .int .i64 a0_7, .int .i64 a0_8, .int .i64 a0_9, .int .i64 a0_10]) (t := 30) ?hr ?_; (case hd => rfl); (case hg => rfl); (case hr => first | (go_simp; done) | (go_simp; rfl)); intro gb662 hg w7 hbox hb; have BK662 := Aside0.mk (hbox); have GW662 := Aside0.mk ((by rw [hg]; exact (below_size (bq0_ HB.out)) : w.heap.size ≤ gb662)); have GE662 := Aside0.mk ((by rw [hg]; exact (below_size (bq0_ HB.out)) : w.heap.size ≤ gb662)); replace HO0_2 := Aside0.mk (Kd.V_below (Kd.V_elderB (mvV_ HO0_2.out) gb662 (Nat.le_of_eq hg.symm)) hb); replace HO0_3 := Aside0.mk (Kd.V_below (Kd.V_elderB (mvV_ HO0_3.out) gb662 (Nat.le_of_eq hg.symm)) hb); replace HO0_4 := Aside0.mk (Kd.V_below (Kd.V_elderB (mvV_ HO0_4.out) gb662 (Nat.le_of_eq hg.symm)) hb); replace HB := Aside0.mk (below_step (bq0_ HB.out) hb); clear hb hbox hg) | ((with_reducible refine gate_callee (f := 8) rfl ?_); refine gL_ (some 11) Try.func8 #[] ?_; (with_reducible refine (fullerlaw23_awake.calls k  t663 _ A2.out).mono ?_); rintro e w8 ⟨rfl, hb⟩; refine ⟨_, rfl, ?_⟩; replace HO0_2 := mbV_ HO0_2.out hb; replace HO0_3 := mbV_ HO0_3.out hb; replace HO0_4 := mbV_ HO0_4.out hb; replace BK662 := mvB_ BK662.out hb; replace HB := Aside0.mk (below_step (bq1_ HB.out GE662.out) hb); (try clear hb); have hcz9_0 := cz0_ BK662.out; have hcz9_1 := cz1_ BK662.out; have hcz9_2 := cz2_ BK662.out; have hcz9_3 := hc_ BK662 3; have hcz9_4 := hc_ BK662 4; have hcz9_5 := hc_ BK662 5; have hcz9_6 := hc_ BK662 6; have hcz9_7 := hc_ BK662 7; have hcz9_8 := hc_ BK662 8; have hcz9_9 := hc_ BK662 9; have hcz9_10 := hc_ BK662 10; have hfz9_0 := blk_frozen BK662.out 0; have hfz9_1 := blk_frozen BK662.out 1; have hfz9_2 := blk_frozen BK662.out 2; have hfz9_3 := blk_frozen BK662.out 3; have hfz9_4 := blk_frozen BK662.out 4; have hfz9_5 := blk_frozen BK662.out 5; have hfz9_6 := blk_frozen BK662.out 6; have hfz9_7 := blk_frozen BK662.out 7; have hfz9_8 := blk_frozen BK662.out 8; have hfz9_9 := blk_frozen BK662.out 9; have hfz9_10 := blk_frozen BK662.out 10) | ((with_reducible refine gate_dst (N := 13) rfl ?_); (try (refine gate_guard (by rfl) ?_; dsimp only)); refine Kd.N_lit k30 _ 30 ?hg (N' := 13) ?hd (xs := ([(⟨a0_0, a0_1, l0_2, (⟨l0_3, l0_4⟩ : S26), (⟨a0_5, a0_6, a0_7, a0_8⟩ : S28), a0_9, a0_10⟩ : S30)] : List (S30))) (inner := [.int .i64 a0_0, .int .i64 a0_1, .slice A0_2 l0_2.length c0_2, .slice A0_3 l0_3.length c0_3, .slice A0_4 l0_4.length c0_4, .int .i64 a0_5, .int .i64 a0_6, .int .i64 a0_7, .int .i64 a0_8, .int .i64 a0_9, .int .i64 a0_10]) (ok := (fun k_ => ((P0_2_ k_ ∨ P0_3_ k_ ∨ P0_4_ k_) ∨ w.heap.size ≤ k_) ∧ k_ ≠ gb662)) (okp := (fun k_ => ((P0_2_ k_ ∨ P0_3_ k_ ∨ P0_4_ k_) ∨ w.heap.size ≤ k_) ∧ k_ ≠ gb662)) ?hr ?hp (fun _ hk => hk) ((show ∀ k_, w8.heap.size ≤ k_ → (fun k_ => ((P0_2_ k_ ∨ P0_3_ k_ ∨ P0_4_ k_) ∨ w.heap.size ≤ k_) ∧ k_ ≠ gb662) k_ from fun k_ hk => ⟨(.inr (Nat.le_trans (below_size (bq1_ HB.out GE662.out)) hk)), mvF_ BK662.out hk⟩) _ (Nat.le_refl _)) (Below.refl _ _) (Nat.le_refl _) (by simp) ?_; (case hd => rfl); (case hg => rfl); (case hr => first | (go_simp; done) | (go_simp; rfl)); (case hp => exact (Reps.front (show Kd.FK k30 _ _ (⟨a0_0, a0_1, l0_2, (⟨l0_3, l0_4⟩ : S26), (⟨a0_5, a0_6, a0_7, a0_8⟩ : S28), a0_9, a0_10⟩ : S30) [.int .i64 a0_0, .int .i64 a0_1, .slice A0_2 l0_2.length c0_2, .slice A0_3 l0_3.length c0_3, .slice A0_4 l0_4.length c0_4, .int .i64 a0_5, .int .i64 a0_6, .int .i64 a0_7, .int .i64 a0_8, .int .i64 a0_9, .int .i64 a0_10] from (k30_mkF _ _ (⟨a0_0, a0_1, l0_2, (⟨l0_3, l0_4⟩ : S26), (⟨a0_5, a0_6, a0_7, a0_8⟩ : S28), a0_9, a0_10⟩ : S30) (Kd.V_reads' (Kd.V_mono (ok' := (fun k_ => ((P0_2_ k_ ∨ P0_3_ k_ ∨ P0_4_ k_) ∨ w.heap.size ≤ k_) ∧ k_ ≠ gb662)) (HO0_2.out) (fun k_ hk => ⟨hk.1, hk.2⟩))).2.1 (Kd.V_F (Kd.V_mono (ok' := (fun k_ => ((P0_2_ k_ ∨ P0_3_ k_ ∨ P0_4_ k_) ∨ w.heap.size ≤ k_) ∧ k_ ≠ gb662)) (HO0_2.out) (fun k_ hk => ⟨hk.1, hk.2⟩))) (Kd.V_reads' (Kd.V_mono (ok' := (fun k_ => ((P0_2_ k_ ∨ P0_3_ k_ ∨ P0_4_ k_) ∨ w.heap.size ≤ k_) ∧ k_ ≠ gb662)) (HO0_3.out) (fun k_ hk => ⟨hk.1, hk.2⟩))).2.1 (Kd.V_F (Kd.V_mono (ok' := (fun k_ => ((P0_2_ k_ ∨ P0_3_ k_ ∨ P0_4_ k_) ∨ w.heap.size ≤ k_) ∧ k_ ≠ gb662)) (HO0_3.out) (fun k_ hk => ⟨hk.1, hk.2⟩))) (Kd.V_reads' (Kd.V_mono (ok' := (fun k_ => ((P0_2_ k_ ∨ P0_3_ k_ ∨ P0_4_ k_) ∨ w.heap.size ≤ k_) ∧ k_ ≠ gb662)) (HO0_4.out) (fun k_ hk => ⟨hk.1, hk.2⟩))).2.1 (Kd.V_F (Kd.V_mono (ok' := (fun k_ => ((P0_2_ k_ ∨ P0_3_ k_ ∨ P0_4_ k_) ∨ w.heap.size ≤ k_) ∧ k_ ≠ gb662)) (HO0_4.out) (fun k_ hk => ⟨hk.1, hk.2⟩))))) rfl (Reps.none _ _) rfl)); intro v665 w10 ho11 hb hg_ hnew_; clear hg_ hnew_; (first | rw [← Ny664.out] at ho11 | (simp only [Int.reduceToNat] at ho11; rw [← Ny664.out] at ho11)); have HO666 := Aside0.mk (Kd.N_lower ho11 (below_size (bq1_ HB.out GE662.out))); replace HO0_2 := mbV_ HO0_2.out hb; replace HO0_3 := mbV_ HO0_3.out hb; replace HO0_4 := mbV_ HO0_4.out hb; replace BK662 := mvB_ BK662.out hb; replace HB := Aside0.mk (below_step (bq1_ HB.out GE662.out) hb); clear hb ho11; obtain ⟨Ao12, co12, eo12⟩ := Kd.N_slice HO666.out; subst eo12) | ((with_reducible refine gate_callee (f := 9) rfl ?_); refine gL_ (some 14) Try.func9 #[.slice Ao12 y664.length co12, .int .i64 1] ?_; (with_reducible refine (fullerref21_Cmds.calls k _ _ y664 1 true _ ?side1 ?side2 A3.out).mono ?_); (case side1 => exact mvC_ ((Kd.N_reads' HO666.out).2.2)); (case side2 => exact (Kd.N_reads' HO666.out).2.1); rintro e w13 ⟨rfl, hb⟩; refine ⟨_, rfl, ?_⟩; replace HO0_2 := mbV_ HO0_2.out hb; replace HO0_3 := mbV_ HO0_3.out hb; replace HO0_4 := mbV_ HO0_4.out hb; replace HO666 := mbN_ HO666.out hb; replace BK662 := mvB_ BK662.out hb; replace HB := Aside0.mk (below_step (bq1_ HB.out GE662.out) hb); (try clear hb); have hcz14_0 := cz0_ BK662.out; have hcz14_1 := cz1_ BK662.out; have hcz14_2 := cz2_ BK662.out; have hcz14_3 := hc_ BK662 3; have hcz14_4 := hc_ BK662 4; have hcz14_5 := hc_ BK662 5; have hcz14_6 := hc_ BK662 6; have hcz14_7 := hc_ BK662 7; have hcz14_8 := hc_ BK662 8; have hcz14_9 := hc_ BK662 9; have hcz14_10 := hc_ BK662 10; have hfz14_0 := blk_frozen BK662.out 0; have hfz14_1 := blk_frozen BK662.out 1; have hfz14_2 := blk_frozen BK662.out 2; have hfz14_3 := blk_frozen BK662.out 3; have hfz14_4 := blk_frozen BK662.out 4; have hfz14_5 := blk_frozen BK662.out 5; have hfz14_6 := blk_frozen BK662.out 6; have hfz14_7 := blk_frozen BK662.out 7; have hfz14_8 := blk_frozen BK662.out 8; have hfz14_9 := blk_frozen BK662.out 9; have hfz14_10 := blk_frozen BK662.out 10) | ((with_reducible refine gate_dst (N := 19) rfl ?_); (try (refine gate_guard (by rfl) ?_; dsimp only)); refine Kd.N_lit k30 _ 30 ?hg (N' := 19) ?hd (xs := ([(⟨a0_0, a0_1, l0_2, (⟨l0_3, l0_4⟩ : S26), (⟨a0_5, a0_6, a0_7, a0_8⟩ : S28), a0_9, a0_10⟩ : S30)] : List (S30))) (inner := [.int .i64 a0_0, .int .i64 a0_1, .slice A0_2 l0_2.length c0_2, .slice A0_3 l0_3.length c0_3, .slice A0_4 l0_4.length c0_4, .int .i64 a0_5, .int .i64 a0_6, .int .i64 a0_7, .int .i64 a0_8, .int .i64 a0_9, .int .i64 a0_10]) (ok := (fun k_ => ((P0_2_ k_ ∨ P0_3_ k_ ∨ P0_4_ k_) ∨ w.heap.size ≤ k_) ∧ k_ ≠ gb662)) (okp := (fun k_ => ((P0_2_ k_ ∨ P0_3_ k_ ∨ P0_4_ k_) ∨ w.heap.size ≤ k_) ∧ k_ ≠ gb662)) ?hr ?hp (fun _ hk => hk) ((show ∀ k_, w13.heap.size ≤ k_ → (fun k_ => ((P0_2_ k_ ∨ P0_3_ k_ ∨ P0_4_ k_) ∨ w.heap.size ≤ k_) ∧ k_ ≠ gb662) k_ from fun k_ hk => ⟨(.inr (Nat.le_trans (below_size (bq1_ HB.out GE662.out)) hk)), mvF_ BK662.out hk⟩) _ (Nat.le_refl _)) (Below.refl _ _) (Nat.le_refl _) (by simp) ?_; (case hd => rfl); (case hg => rfl); (case hr => first | (go_simp; done) | (go_simp; rfl)); (case hp => exact (Reps.front (show Kd.FK k30 _ _ (⟨a0_0, a0_1, l0_2, (⟨l0_3, l0_4⟩ : S26), (⟨a0_5, a0_6, a0_7, a0_8⟩ : S28), a0_9, a0_10⟩ : S30) [.int .i64 a0_0, .int .i64 a0_1, .slice A0_2 l0_2.length c0_2, .slice A0_3 l0_3.length c0_3, .slice A0_4 l0_4.length c0_4, .int .i64 a0_5, .int .i64 a0_6, .int .i64 a0_7, .int .i64 a0_8, .int .i64 a0_9, .int .i64 a0_10] from (k30_mkF _ _ (⟨a0_0, a0_1, l0_2, (⟨l0_3, l0_4⟩ : S26), (⟨a0_5, a0_6, a0_7, a0_8⟩ : S28), a0_9, a0_10⟩ : S30) (Kd.V_reads' (Kd.V_mono (ok' := (fun k_ => ((P0_2_ k_ ∨ P0_3_ k_ ∨ P0_4_ k_) ∨ w.heap.size ≤ k_) ∧ k_ ≠ gb662)) (HO0_2.out) (fun k_ hk => ⟨hk.1, hk.2⟩))).2.1 (Kd.V_F (Kd.V_mono (ok' := (fun k_ => ((P0_2_ k_ ∨ P0_3_ k_ ∨ P0_4_ k_) ∨ w.heap.size ≤ k_) ∧ k_ ≠ gb662)) (HO0_2.out) (fun k_ hk => ⟨hk.1, hk.2⟩))) (Kd.V_reads' (Kd.V_mono (ok' := (fun k_ => ((P0_2_ k_ ∨ P0_3_ k_ ∨ P0_4_ k_) ∨ w.heap.size ≤ k_) ∧ k_ ≠ gb662)) (HO0_3.out) (fun k_ hk => ⟨hk.1, hk.2⟩))).2.1 (Kd.V_F (Kd.V_mono (ok' := (fun k_ => ((P0_2_ k_ ∨ P0_3_ k_ ∨ P0_4_ k_) ∨ w.heap.size ≤ k_) ∧ k_ ≠ gb662)) (HO0_3.out) (fun k_ hk => ⟨hk.1, hk.2⟩))) (Kd.V_reads' (Kd.V_mono (ok' := (fun k_ => ((P0_2_ k_ ∨ P0_3_ k_ ∨ P0_4_ k_) ∨ w.heap.size ≤ k_) ∧ k_ ≠ gb662)) (HO0_4.out) (fun k_ hk => ⟨hk.1, hk.2⟩))).2.1 (Kd.V_F (Kd.V_mono (ok' := (fun k_ => ((P0_2_ k_ ∨ P0_3_ k_ ∨ P0_4_ k_) ∨ w.heap.size ≤ k_) ∧ k_ ≠ gb662)) (HO0_4.out) (fun k_ hk => ⟨hk.1, hk.2⟩))))) rfl (Reps.none _ _) rfl)); intro v669 w15 ho16 hb hg_ hnew_; clear hg_ hnew_; (first | rw [← Ny668.out] at ho16 | (simp only [Int.reduceToNat] at ho16; rw [← Ny668.out] at ho16)); have HO670 := Aside0.mk (Kd.N_lower ho16 (below_size (bq1_ HB.out GE662.out))); replace HO0_2 := mbV_ HO0_2.out hb; replace HO0_3 := mbV_ HO0_3.out hb; replace HO0_4 := mbV_ HO0_4.out hb; replace BK662 := mvB_ BK662.out hb; replace HB := Aside0.mk (below_step (bq1_ HB.out GE662.out) hb); clear hb ho16; obtain ⟨Ao17, co17, eo17⟩ := Kd.N_slice HO670.out; subst eo17) | ((with_reducible refine gate_callee (f := 10) rfl ?_); refine gL_ (some 20) Try.func10 #[.slice Ao17 y668.length co17] ?_; (with_reducible refine (script_Write.calls k _ _ y668 t671 t672 _ ?side1 ?side2 A5.out).mono ?_); (case side1 => exact mvC_ ((Kd.N_reads' HO670.out).2.2)); (case side2 => exact (Kd.N_reads' HO670.out).2.1); rintro e w18 ⟨v673, rfl, ho0, hb⟩; refine ⟨_, rfl, ?_⟩; have HO674 := Aside0.mk (Kd.R_lower (Kd.R_newM (M := fun k_ => (w.heap.size ≤ k_)) ho0 (below_size (bq1_ HB.out GE662.out)) (fun k_ h_ => h_)) (below_size (bq1_ HB.out GE662.out))); replace HO0_2 := mbV_ HO0_2.out hb; replace HO0_3 := mbV_ HO0_3.out hb; replace HO0_4 := mbV_ HO0_4.out hb; replace HO670 := mbN_ HO670.out hb; replace BK662 := mvB_ BK662.out hb; replace HB := Aside0.mk (below_step (bq1_ HB.out GE662.out) hb); (try clear hb); (try clear ho0)))
  (try simp only [Act.put, sA_, sB_, sC_])
  go_cut [29] (fun v29 wc => ∃ (kq : Nat) (x29_5 : Bool), v29 = .bool x29_5 ∧ Aside0 (fullerlaw23_ScriptSizes.j0 kq t663 t671 t672 x29_5 a0_0 a0_1 l0_2 l0_3 l0_4 a0_5 a0_6 a0_7 a0_8 a0_9 a0_10 = some r) ∧ Aside0 (kq ≤ k) ∧ Aside0 (Kd.R (Kd.int .u8) 5 wc w.heap.size (fun k_ => (w.heap.size ≤ k_)) v673 t671) ∧ Aside0 (Kd.V k48 48 wc w.heap.size (fun k_ => ((P0_2_ k_ ∨ P0_3_ k_ ∨ P0_4_ k_) ∨ w.heap.size ≤ k_) ∧ k_ ≠ gb662) (.slice A0_2 l0_2.length c0_2) l0_2) ∧ Aside0 (Kd.V (Kd.int .i64) 3 wc w.heap.size (fun k_ => ((P0_2_ k_ ∨ P0_3_ k_ ∨ P0_4_ k_) ∨ w.heap.size ≤ k_) ∧ k_ ≠ gb662) (.slice A0_3 l0_3.length c0_3) l0_3) ∧ Aside0 (Kd.V (Kd.int .i64) 3 wc w.heap.size (fun k_ => ((P0_2_ k_ ∨ P0_3_ k_ ∨ P0_4_ k_) ∨ w.heap.size ≤ k_) ∧ k_ ≠ gb662) (.slice A0_4 l0_4.length c0_4) l0_4) ∧ Aside0 (wc.heap[gb662]? = some (.cells #[.int .i64 a0_0, .int .i64 a0_1, (.slice A0_2 l0_2.length c0_2), (.slice A0_3 l0_3.length c0_3), (.slice A0_4 l0_4.length c0_4), .int .i64 a0_5, .int .i64 a0_6, .int .i64 a0_7, .int .i64 a0_8, .int .i64 a0_9, .int .i64 a0_10] 30 (0, 0))) ∧ Aside0 (Below w.heap.size w wc))
  case first =>
   have H := HC6.out
   clear HC6
   by_cases c19 : t672 = 0
   ·rw [if_pos c19] at H
    obtain ⟨c19b0, c19b1⟩ := eqT_ c19
    clear c19
    (first | rw [c19b0] | (simp only [i64_w, i32_w]; rw [c19b0]) | rw [c19b1] | skip)
    have H' := Aside0.mk H
    clear H
    obtain ⟨Ao20, co20, eo20⟩ := Kd.R_slice HO674.out
    subst eo20
    go_wp2
    go_meet
    case rel => exact ⟨_, (((t671.length : Int) == 0)), (by first | rfl | (simp; done) | (simp [*]; done)), H', ⟨by first | omega | exact Nat.le_refl _⟩, ⟨by (with_reducible repeat (first | apply Kd.R_alloc | apply Kd.R_drewN | apply Kd.R_drew)); exact Kd.R_mono HO674.out (fun _ hk => hk.1)⟩, ⟨mvV_ HO0_2.out⟩, ⟨mvV_ HO0_3.out⟩, ⟨mvV_ HO0_4.out⟩, ⟨by (with_reducible repeat (first | refine blk_drewN ?_ _ | refine blk_drew ?_ | refine blk_alloc ?_ _)); exact BK662.out⟩, ⟨bq1_ HB.out GE662.out⟩⟩
   ·rw [if_neg c19] at H
    have c19b0 : (t672 == 0) = false := beq_eq_false_iff_ne.mpr c19
    have c19b1 : (t672 != 0) = true := bne_iff_ne.mpr c19
    (first | rw [c19b0] | (simp only [i64_w, i32_w]; rw [c19b0]) | rw [c19b1] | skip)
    have H' := Aside0.mk H
    clear H
    go_wp2
    go_meet
    case rel => exact ⟨_, (true), (by first | rfl | (simp; done) | (simp [*]; done)), H', ⟨by first | omega | exact Nat.le_refl _⟩, ⟨by (with_reducible repeat (first | apply Kd.R_alloc | apply Kd.R_drewN | apply Kd.R_drew)); exact Kd.R_mono HO674.out (fun _ hk => hk.1)⟩, ⟨mvV_ HO0_2.out⟩, ⟨mvV_ HO0_3.out⟩, ⟨mvV_ HO0_4.out⟩, ⟨by (with_reducible repeat (first | refine blk_drewN ?_ _ | refine blk_drew ?_ | refine blk_alloc ?_ _)); exact BK662.out⟩, ⟨bq1_ HB.out GE662.out⟩⟩
  case rest =>
   clear HC6
   try clear c1
   try clear p2
   try clear c4
   try clear c6
   try clear c8
   try clear c9
   try clear c10
   try clear c19
   try clear c19b0
   try clear c19b1
   try clear hcz14_0
   try clear hcz14_1
   try clear hcz14_10
   try clear hcz14_2
   try clear hcz14_3
   try clear hcz14_4
   try clear hcz14_5
   try clear hcz14_6
   try clear hcz14_7
   try clear hcz14_8
   try clear hcz14_9
   try clear hcz9_0
   try clear hcz9_1
   try clear hcz9_10
   try clear hcz9_2
   try clear hcz9_3
   try clear hcz9_4
   try clear hcz9_5
   try clear hcz9_6
   try clear hcz9_7
   try clear hcz9_8
   try clear hcz9_9
   try clear hfz14_0
   try clear hfz14_1
   try clear hfz14_10
   try clear hfz14_2
   try clear hfz14_3
   try clear hfz14_4
   try clear hfz14_5
   try clear hfz14_6
   try clear hfz14_7
   try clear hfz14_8
   try clear hfz14_9
   try clear hfz9_0
   try clear hfz9_1
   try clear hfz9_10
   try clear hfz9_2
   try clear hfz9_3
   try clear hfz9_4
   try clear hfz9_5
   try clear hfz9_6
   try clear hfz9_7
   try clear hfz9_8
   try clear hfz9_9
   obtain ⟨kq, x29_5, rfl, HA, HJ5, HO_4, HO_663002, HO_663003, HO_663004, BK662, HB⟩ := hcut
   cases kq with
   | zero => exact absurd HA.out (by simp [fullerlaw23_ScriptSizes.j0])
   | succ kj5 =>
    have H := HA.out
    clear HA
    simp only [fullerlaw23_ScriptSizes.j0] at H
    by_cases c21 : x29_5 = true
    ·subst c21
     have H1 : (if t663 = true then ((script_Check.f kj5 a0_0 a0_1 l0_2 l0_3 l0_4 a0_5 a0_6 a0_7 a0_8 a0_9 a0_10).bind fun t675 => (if t675 = true then (some false) else (some (t672 == 230)))) else (some false)) = some r := by rw [if_pos rfl] at H; exact H
     clear H
     have H := H1
     clear H1
     by_cases c22 : t663 = true
     ·subst c22
      have H1 : ((script_Check.f kj5 a0_0 a0_1 l0_2 l0_3 l0_4 a0_5 a0_6 a0_7 a0_8 a0_9 a0_10).bind fun t675 => (if t675 = true then (some false) else (some (t672 == 230)))) = some r := by rw [if_pos rfl] at H; exact H
      clear H
      have H := H1
      clear H1
      replace H := Option.bind_eq_some_iff.mp H
      obtain ⟨t675, A230, H⟩ := H
      replace H : (if t675 = true then (some false) else (some (t672 == 230))) = some r := H
      have A23 := Aside0.mk A230
      clear A230
      by_cases c24 : t675 = true
      ·subst c24
       have H1 : (some false) = some r := by rw [if_pos rfl] at H; exact H
       clear H
       have H := H1
       clear H1
       obtain rfl := Option.some.inj H
       have hcz25_0 := cz0_ BK662.out
       have hcz25_1 := cz1_ BK662.out
       have hcz25_2 := cz2_ BK662.out
       have hcz25_3 := hc_ BK662 3
       have hcz25_4 := hc_ BK662 4
       have hcz25_5 := hc_ BK662 5
       have hcz25_6 := hc_ BK662 6
       have hcz25_7 := hc_ BK662 7
       have hcz25_8 := hc_ BK662 8
       have hcz25_9 := hc_ BK662 9
       have hcz25_10 := hc_ BK662 10
       have hfz25_0 := blk_frozen BK662.out 0
       have hfz25_1 := blk_frozen BK662.out 1
       have hfz25_2 := blk_frozen BK662.out 2
       have hfz25_3 := blk_frozen BK662.out 3
       have hfz25_4 := blk_frozen BK662.out 4
       have hfz25_5 := blk_frozen BK662.out 5
       have hfz25_6 := blk_frozen BK662.out 6
       have hfz25_7 := blk_frozen BK662.out 7
       have hfz25_8 := blk_frozen BK662.out 8
       have hfz25_9 := blk_frozen BK662.out 9
       have hfz25_10 := blk_frozen BK662.out 10
       go_wp2_with (first | (go_at_call 15; (with_reducible refine (script_Check.calls kj5 a0_0 a0_1 _ _ l0_2 _ _ l0_3 _ _ l0_4 a0_5 a0_6 a0_7 a0_8 a0_9 a0_10 true _ ?side1 ?side2 ?side3 ?side4 ?side5 ?side6 A23.out).mono ?_); (case side1 => exact mvC_ ((Kd.V_reads' HO_663002.out).2.2)); (case side2 => exact (Kd.V_reads' HO_663002.out).2.1); (case side3 => exact mvC_ ((Kd.V_reads' HO_663003.out).2.2)); (case side4 => exact (Kd.V_reads' HO_663003.out).2.1); (case side5 => exact mvC_ ((Kd.V_reads' HO_663004.out).2.2)); (case side6 => exact (Kd.V_reads' HO_663004.out).2.1); rintro e w26 ⟨rfl, hb⟩; replace HO_4 := mbR_ HO_4.out hb; replace HO_663002 := mbV_ HO_663002.out hb; replace HO_663003 := mbV_ HO_663003.out hb; replace HO_663004 := mbV_ HO_663004.out hb; replace BK662 := mvB_ BK662.out hb; replace HB := Aside0.mk (below_step (bq1_ HB.out GE662.out) hb); (try clear hb)))
       go_ret
       exact ⟨by first | rfl | (simp <;> rfl) | (simp [*] <;> rfl), bq1_ HB.out GE662.out⟩
      ·replace c24 := Bool.eq_false_iff.mpr c24
       subst c24
       have H1 : (some (t672 == 230)) = some r := by rw [if_neg (show ¬ (false = true) by decide)] at H; exact H
       clear H
       have H := H1
       clear H1
       obtain rfl := Option.some.inj H
       have hcz27_0 := cz0_ BK662.out
       have hcz27_1 := cz1_ BK662.out
       have hcz27_2 := cz2_ BK662.out
       have hcz27_3 := hc_ BK662 3
       have hcz27_4 := hc_ BK662 4
       have hcz27_5 := hc_ BK662 5
       have hcz27_6 := hc_ BK662 6
       have hcz27_7 := hc_ BK662 7
       have hcz27_8 := hc_ BK662 8
       have hcz27_9 := hc_ BK662 9
       have hcz27_10 := hc_ BK662 10
       have hfz27_0 := blk_frozen BK662.out 0
       have hfz27_1 := blk_frozen BK662.out 1
       have hfz27_2 := blk_frozen BK662.out 2
       have hfz27_3 := blk_frozen BK662.out 3
       have hfz27_4 := blk_frozen BK662.out 4
       have hfz27_5 := blk_frozen BK662.out 5
       have hfz27_6 := blk_frozen BK662.out 6
       have hfz27_7 := blk_frozen BK662.out 7
       have hfz27_8 := blk_frozen BK662.out 8
       have hfz27_9 := blk_frozen BK662.out 9
       have hfz27_10 := blk_frozen BK662.out 10
       go_wp2_with (first | (go_at_call 15; (with_reducible refine (script_Check.calls kj5 a0_0 a0_1 _ _ l0_2 _ _ l0_3 _ _ l0_4 a0_5 a0_6 a0_7 a0_8 a0_9 a0_10 false _ ?side1 ?side2 ?side3 ?side4 ?side5 ?side6 A23.out).mono ?_); (case side1 => exact mvC_ ((Kd.V_reads' HO_663002.out).2.2)); (case side2 => exact (Kd.V_reads' HO_663002.out).2.1); (case side3 => exact mvC_ ((Kd.V_reads' HO_663003.out).2.2)); (case side4 => exact (Kd.V_reads' HO_663003.out).2.1); (case side5 => exact mvC_ ((Kd.V_reads' HO_663004.out).2.2)); (case side6 => exact (Kd.V_reads' HO_663004.out).2.1); rintro e w28 ⟨rfl, hb⟩; replace HO_4 := mbR_ HO_4.out hb; replace HO_663002 := mbV_ HO_663002.out hb; replace HO_663003 := mbV_ HO_663003.out hb; replace HO_663004 := mbV_ HO_663004.out hb; replace BK662 := mvB_ BK662.out hb; replace HB := Aside0.mk (below_step (bq1_ HB.out GE662.out) hb); (try clear hb)))
       go_ret
       exact ⟨by first | rfl | (simp <;> rfl) | (simp [*] <;> rfl), bq1_ HB.out GE662.out⟩
     ·replace c22 := Bool.eq_false_iff.mpr c22
      subst c22
      have H1 : (some false) = some r := by rw [if_neg (show ¬ (false = true) by decide)] at H; exact H
      clear H
      have H := H1
      clear H1
      obtain rfl := Option.some.inj H
      go_wp2
      go_ret
      exact ⟨by first | rfl | (simp <;> rfl) | (simp [*] <;> rfl), bq1_ HB.out GE662.out⟩
    ·replace c21 := Bool.eq_false_iff.mpr c21
     subst c21
     have H1 : (if a0_0 ≥ 2 then (if a0_0 ≤ 5 then (fullerlaw23_ScriptSizes.j1 kj5 t663 t671 1 true a0_0 a0_1 l0_2 l0_3 l0_4 a0_5 a0_6 a0_7 a0_8 a0_9 a0_10) else (fullerlaw23_ScriptSizes.j1 kj5 t663 t671 1 (a0_0 == 8) a0_0 a0_1 l0_2 l0_3 l0_4 a0_5 a0_6 a0_7 a0_8 a0_9 a0_10)) else (fullerlaw23_ScriptSizes.j1 kj5 t663 t671 1 (a0_0 == 8) a0_0 a0_1 l0_2 l0_3 l0_4 a0_5 a0_6 a0_7 a0_8 a0_9 a0_10)) = some r := by rw [if_neg (show ¬ (false = true) by decide)] at H; exact H
     clear H
     have H := H1
     clear H1
     have HC29 := Aside0.mk H
     clear H
     go_upto_region 8 with (fail)
     go_cut [52] (fun v52 wc => ∃ (kq : Nat) (x52_28 : Bool), v52 = .bool x52_28 ∧ Aside0 (fullerlaw23_ScriptSizes.j1 kq t663 t671 1 x52_28 a0_0 a0_1 l0_2 l0_3 l0_4 a0_5 a0_6 a0_7 a0_8 a0_9 a0_10 = some r) ∧ Aside0 (kq ≤ kj5) ∧ Aside0 (Kd.R (Kd.int .u8) 5 wc w.heap.size (fun k_ => (w.heap.size ≤ k_)) v673 t671) ∧ Aside0 (Kd.V k48 48 wc w.heap.size (fun k_ => ((P0_2_ k_ ∨ P0_3_ k_ ∨ P0_4_ k_) ∨ w.heap.size ≤ k_) ∧ k_ ≠ gb662) (.slice A0_2 l0_2.length c0_2) l0_2) ∧ Aside0 (Kd.V (Kd.int .i64) 3 wc w.heap.size (fun k_ => ((P0_2_ k_ ∨ P0_3_ k_ ∨ P0_4_ k_) ∨ w.heap.size ≤ k_) ∧ k_ ≠ gb662) (.slice A0_3 l0_3.length c0_3) l0_3) ∧ Aside0 (Kd.V (Kd.int .i64) 3 wc w.heap.size (fun k_ => ((P0_2_ k_ ∨ P0_3_ k_ ∨ P0_4_ k_) ∨ w.heap.size ≤ k_) ∧ k_ ≠ gb662) (.slice A0_4 l0_4.length c0_4) l0_4) ∧ Aside0 (wc.heap[gb662]? = some (.cells #[.int .i64 a0_0, .int .i64 a0_1, (.slice A0_2 l0_2.length c0_2), (.slice A0_3 l0_3.length c0_3), (.slice A0_4 l0_4.length c0_4), .int .i64 a0_5, .int .i64 a0_6, .int .i64 a0_7, .int .i64 a0_8, .int .i64 a0_9, .int .i64 a0_10] 30 (0, 0))) ∧ Aside0 (Below w.heap.size w wc))
     case first =>
      have H := HC29.out
      clear HC29
      by_cases c30 : a0_0 ≥ 2
      ·rw [if_pos c30] at H
       have c30b0 : decide (2 ≤ a0_0) = true := decide_eq_true c30
       clear c30
       (first | rw [c30b0] | (simp only [i64_w, i32_w]; rw [c30b0]) | rw [c30b1] | skip)
       by_cases c31 : a0_0 ≤ 5
       ·rw [if_pos c31] at H
        have c31b0 : decide (a0_0 ≤ 5) = true := decide_eq_true c31
        clear c31
        have H' := Aside0.mk H
        clear H
        have hcz32_0 := cz0_ BK662.out
        have hcz32_1 := cz1_ BK662.out
        have hcz32_2 := cz2_ BK662.out
        have hcz32_3 := hc_ BK662 3
        have hcz32_4 := hc_ BK662 4
        have hcz32_5 := hc_ BK662 5
        have hcz32_6 := hc_ BK662 6
        have hcz32_7 := hc_ BK662 7
        have hcz32_8 := hc_ BK662 8
        have hcz32_9 := hc_ BK662 9
        have hcz32_10 := hc_ BK662 10
        have hfz32_0 := blk_frozen BK662.out 0
        have hfz32_1 := blk_frozen BK662.out 1
        have hfz32_2 := blk_frozen BK662.out 2
        have hfz32_3 := blk_frozen BK662.out 3
        have hfz32_4 := blk_frozen BK662.out 4
        have hfz32_5 := blk_frozen BK662.out 5
        have hfz32_6 := blk_frozen BK662.out 6
        have hfz32_7 := blk_frozen BK662.out 7
        have hfz32_8 := blk_frozen BK662.out 8
        have hfz32_9 := blk_frozen BK662.out 9
        have hfz32_10 := blk_frozen BK662.out 10
        go_wp2
        go_meet
        case rel => exact ⟨_, (true), (by first | rfl | (simp; done) | (simp [*]; done)), H', ⟨by have := HJ5.out; first | omega | exact Nat.le_refl _⟩, ⟨mvR_ HO_4.out⟩, ⟨mvV_ HO_663002.out⟩, ⟨mvV_ HO_663003.out⟩, ⟨mvV_ HO_663004.out⟩, ⟨by (with_reducible repeat (first | refine blk_drewN ?_ _ | refine blk_drew ?_ | refine blk_alloc ?_ _)); exact BK662.out⟩, ⟨bq1_ HB.out GE662.out⟩⟩
       ·rw [if_neg c31] at H
        have c31b0 : decide (a0_0 ≤ 5) = false := decide_eq_false c31
        clear c31
        have H' := Aside0.mk H
        clear H
        have hcz33_0 := cz0_ BK662.out
        have hcz33_1 := cz1_ BK662.out
        have hcz33_2 := cz2_ BK662.out
        have hcz33_3 := hc_ BK662 3
        have hcz33_4 := hc_ BK662 4
        have hcz33_5 := hc_ BK662 5
        have hcz33_6 := hc_ BK662 6
        have hcz33_7 := hc_ BK662 7
        have hcz33_8 := hc_ BK662 8
        have hcz33_9 := hc_ BK662 9
        have hcz33_10 := hc_ BK662 10
        have hfz33_0 := blk_frozen BK662.out 0
        have hfz33_1 := blk_frozen BK662.out 1
        have hfz33_2 := blk_frozen BK662.out 2
        have hfz33_3 := blk_frozen BK662.out 3
        have hfz33_4 := blk_frozen BK662.out 4
        have hfz33_5 := blk_frozen BK662.out 5
        have hfz33_6 := blk_frozen BK662.out 6
        have hfz33_7 := blk_frozen BK662.out 7
        have hfz33_8 := blk_frozen BK662.out 8
        have hfz33_9 := blk_frozen BK662.out 9
        have hfz33_10 := blk_frozen BK662.out 10
        go_wp2
        go_meet
        case rel => exact ⟨_, ((a0_0 == 8)), (by first | rfl | (simp; done) | (simp [*]; done)), H', ⟨by have := HJ5.out; first | omega | exact Nat.le_refl _⟩, ⟨mvR_ HO_4.out⟩, ⟨mvV_ HO_663002.out⟩, ⟨mvV_ HO_663003.out⟩, ⟨mvV_ HO_663004.out⟩, ⟨by (with_reducible repeat (first | refine blk_drewN ?_ _ | refine blk_drew ?_ | refine blk_alloc ?_ _)); exact BK662.out⟩, ⟨bq1_ HB.out GE662.out⟩⟩
      ·rw [if_neg c30] at H
       have c30b0 : decide (2 ≤ a0_0) = false := decide_eq_false c30
       clear c30
       (first | rw [c30b0] | (simp only [i64_w, i32_w]; rw [c30b0]) | rw [c30b1] | skip)
       have H' := Aside0.mk H
       clear H
       have hcz34_0 := cz0_ BK662.out
       have hcz34_1 := cz1_ BK662.out
       have hcz34_2 := cz2_ BK662.out
       have hcz34_3 := hc_ BK662 3
       have hcz34_4 := hc_ BK662 4
       have hcz34_5 := hc_ BK662 5
       have hcz34_6 := hc_ BK662 6
       have hcz34_7 := hc_ BK662 7
       have hcz34_8 := hc_ BK662 8
       have hcz34_9 := hc_ BK662 9
       have hcz34_10 := hc_ BK662 10
       have hfz34_0 := blk_frozen BK662.out 0
       have hfz34_1 := blk_frozen BK662.out 1
       have hfz34_2 := blk_frozen BK662.out 2
       have hfz34_3 := blk_frozen BK662.out 3
       have hfz34_4 := blk_frozen BK662.out 4
       have hfz34_5 := blk_frozen BK662.out 5
       have hfz34_6 := blk_frozen BK662.out 6
       have hfz34_7 := blk_frozen BK662.out 7
       have hfz34_8 := blk_frozen BK662.out 8
       have hfz34_9 := blk_frozen BK662.out 9
       have hfz34_10 := blk_frozen BK662.out 10
       go_wp2
       go_meet
       case rel => exact ⟨_, ((a0_0 == 8)), (by first | rfl | (simp; done) | (simp [*]; done)), H', ⟨by have := HJ5.out; first | omega | exact Nat.le_refl _⟩, ⟨mvR_ HO_4.out⟩, ⟨mvV_ HO_663002.out⟩, ⟨mvV_ HO_663003.out⟩, ⟨mvV_ HO_663004.out⟩, ⟨by (with_reducible repeat (first | refine blk_drewN ?_ _ | refine blk_drew ?_ | refine blk_alloc ?_ _)); exact BK662.out⟩, ⟨bq1_ HB.out GE662.out⟩⟩
     case rest =>
      clear HC29
      try clear c1
      try clear c2
      try clear p2
      try clear c3
      try clear c4
      try clear c6
      try clear c8
      try clear c9
      try clear c10
      try clear c19
      try clear c19b0
      try clear c19b1
      try clear c21
      try clear c22
      try clear c24
      try clear c30
      try clear c30b0
      try clear c30b1
      try clear c31
      try clear c31b0
      try clear hcz14_0
      try clear hcz14_1
      try clear hcz14_10
      try clear hcz14_2
      try clear hcz14_3
      try clear hcz14_4
      try clear hcz14_5
      try clear hcz14_6
      try clear hcz14_7
      try clear hcz14_8
      try clear hcz14_9
      try clear hcz25_0
      try clear hcz25_1
      try clear hcz25_10
      try clear hcz25_2
      try clear hcz25_3
      try clear hcz25_4
      try clear hcz25_5
      try clear hcz25_6
      try clear hcz25_7
      try clear hcz25_8
      try clear hcz25_9
      try clear hcz27_0
      try clear hcz27_1
      try clear hcz27_10
      try clear hcz27_2
      try clear hcz27_3
      try clear hcz27_4
      try clear hcz27_5
      try clear hcz27_6
      try clear hcz27_7
      try clear hcz27_8
      try clear hcz27_9
      try clear hcz32_0
      try clear hcz32_1
      try clear hcz32_10
      try clear hcz32_2
      try clear hcz32_3
      try clear hcz32_4
      try clear hcz32_5
      try clear hcz32_6
      try clear hcz32_7
      try clear hcz32_8
      try clear hcz32_9
      try clear hcz33_0
      try clear hcz33_1
      try clear hcz33_10
      try clear hcz33_2
      try clear hcz33_3
      try clear hcz33_4
      try clear hcz33_5
      try clear hcz33_6
      try clear hcz33_7
      try clear hcz33_8
      try clear hcz33_9
      try clear hcz34_0
      try clear hcz34_1
      try clear hcz34_10
      try clear hcz34_2
      try clear hcz34_3
      try clear hcz34_4
      try clear hcz34_5
      try clear hcz34_6
      try clear hcz34_7
      try clear hcz34_8
      try clear hcz34_9
      try clear hcz9_0
      try clear hcz9_1
      try clear hcz9_10
      try clear hcz9_2
      try clear hcz9_3
      try clear hcz9_4
      try clear hcz9_5
      try clear hcz9_6
      try clear hcz9_7
      try clear hcz9_8
      try clear hcz9_9
      try clear hfz14_0
      try clear hfz14_1
      try clear hfz14_10
      try clear hfz14_2
      try clear hfz14_3
      try clear hfz14_4
      try clear hfz14_5
      try clear hfz14_6
      try clear hfz14_7
      try clear hfz14_8
      try clear hfz14_9
      try clear hfz25_0
      try clear hfz25_1
      try clear hfz25_10
      try clear hfz25_2
      try clear hfz25_3
      try clear hfz25_4
      try clear hfz25_5
      try clear hfz25_6
      try clear hfz25_7
      try clear hfz25_8
      try clear hfz25_9
      try clear hfz27_0
      try clear hfz27_1
      try clear hfz27_10
      try clear hfz27_2
      try clear hfz27_3
      try clear hfz27_4
      try clear hfz27_5
      try clear hfz27_6
      try clear hfz27_7
      try clear hfz27_8
      try clear hfz27_9
      try clear hfz32_0
      try clear hfz32_1
      try clear hfz32_10
      try clear hfz32_2
      try clear hfz32_3
      try clear hfz32_4
      try clear hfz32_5
      try clear hfz32_6
      try clear hfz32_7
      try clear hfz32_8
      try clear hfz32_9
      try clear hfz33_0
      try clear hfz33_1
      try clear hfz33_10
      try clear hfz33_2
      try clear hfz33_3
      try clear hfz33_4
      try clear hfz33_5
      try clear hfz33_6
      try clear hfz33_7
      try clear hfz33_8
      try clear hfz33_9
      try clear hfz34_0
      try clear hfz34_1
      try clear hfz34_10
      try clear hfz34_2
      try clear hfz34_3
      try clear hfz34_4
      try clear hfz34_5
      try clear hfz34_6
      try clear hfz34_7
      try clear hfz34_8
      try clear hfz34_9
      try clear hfz9_0
      try clear hfz9_1
      try clear hfz9_10
      try clear hfz9_2
      try clear hfz9_3
      try clear hfz9_4
      try clear hfz9_5
      try clear hfz9_6
      try clear hfz9_7
      try clear hfz9_8
      try clear hfz9_9
      try clear p2
      obtain ⟨kq, x52_28, rfl, HA, HJ28, HO_4, HO_663002, HO_663003, HO_663004, BK662, HB⟩ := hcut
      cases kq with
      | zero => exact absurd HA.out (by simp [fullerlaw23_ScriptSizes.j1])
      | succ kj28 =>
       have H := HA.out
       clear HA
       simp only [fullerlaw23_ScriptSizes.j1] at H
       have HC35 := Aside0.mk H
       clear H
       go_upto_if 52 with (fail)
       go_cut [6] (fun v6 wc => ∃ (kq : Nat) (x6_34 : Int), v6 = .int .i64 x6_34 ∧ Aside0 (fullerlaw23_ScriptSizes.j2 kq t663 t671 x6_34 a0_0 a0_1 l0_2 l0_3 l0_4 a0_5 a0_6 a0_7 a0_8 a0_9 a0_10 = some r) ∧ Aside0 (kq ≤ kj28) ∧ Aside0 (Kd.R (Kd.int .u8) 5 wc w.heap.size (fun k_ => (w.heap.size ≤ k_)) v673 t671) ∧ Aside0 (Kd.V k48 48 wc w.heap.size (fun k_ => ((P0_2_ k_ ∨ P0_3_ k_ ∨ P0_4_ k_) ∨ w.heap.size ≤ k_) ∧ k_ ≠ gb662) (.slice A0_2 l0_2.length c0_2) l0_2) ∧ Aside0 (Kd.V (Kd.int .i64) 3 wc w.heap.size (fun k_ => ((P0_2_ k_ ∨ P0_3_ k_ ∨ P0_4_ k_) ∨ w.heap.size ≤ k_) ∧ k_ ≠ gb662) (.slice A0_3 l0_3.length c0_3) l0_3) ∧ Aside0 (Kd.V (Kd.int .i64) 3 wc w.heap.size (fun k_ => ((P0_2_ k_ ∨ P0_3_ k_ ∨ P0_4_ k_) ∨ w.heap.size ≤ k_) ∧ k_ ≠ gb662) (.slice A0_4 l0_4.length c0_4) l0_4) ∧ Aside0 (wc.heap[gb662]? = some (.cells #[.int .i64 a0_0, .int .i64 a0_1, (.slice A0_2 l0_2.length c0_2), (.slice A0_3 l0_3.length c0_3), (.slice A0_4 l0_4.length c0_4), .int .i64 a0_5, .int .i64 a0_6, .int .i64 a0_7, .int .i64 a0_8, .int .i64 a0_9, .int .i64 a0_10] 30 (0, 0))) ∧ Aside0 (Below w.heap.size w wc))
       case first =>
        have H := HC35.out
        clear HC35
        by_cases c36 : x52_28 = true
        ·subst c36
         have H1 : (fullerlaw23_ScriptSizes.j2 kj28 t663 t671 2 a0_0 a0_1 l0_2 l0_3 l0_4 a0_5 a0_6 a0_7 a0_8 a0_9 a0_10) = some r := by rw [if_pos rfl] at H; exact H
         clear H
         have H := H1
         clear H1
         have H' := Aside0.mk H
         clear H
         go_wp2
         go_meet
         case rel => exact ⟨_, (2), (by first | rfl | (simp; done) | (simp [*]; done)), H', ⟨by have := HJ5.out; have := HJ28.out; first | omega | exact Nat.le_refl _⟩, ⟨mvR_ HO_4.out⟩, ⟨mvV_ HO_663002.out⟩, ⟨mvV_ HO_663003.out⟩, ⟨mvV_ HO_663004.out⟩, ⟨by (with_reducible repeat (first | refine blk_drewN ?_ _ | refine blk_drew ?_ | refine blk_alloc ?_ _)); exact BK662.out⟩, ⟨bq1_ HB.out GE662.out⟩⟩
        ·replace c36 := Bool.eq_false_iff.mpr c36
         subst c36
         have H1 : (fullerlaw23_ScriptSizes.j2 kj28 t663 t671 1 a0_0 a0_1 l0_2 l0_3 l0_4 a0_5 a0_6 a0_7 a0_8 a0_9 a0_10) = some r := by rw [if_neg (show ¬ (false = true) by decide)] at H; exact H
         clear H
         have H := H1
         clear H1
         have H' := Aside0.mk H
         clear H
         go_wp2
         go_meet
         case rel => exact ⟨_, (1), (by first | rfl | (simp; done) | (simp [*]; done)), H', ⟨by have := HJ5.out; have := HJ28.out; first | omega | exact Nat.le_refl _⟩, ⟨mvR_ HO_4.out⟩, ⟨mvV_ HO_663002.out⟩, ⟨mvV_ HO_663003.out⟩, ⟨mvV_ HO_663004.out⟩, ⟨by (with_reducible repeat (first | refine blk_drewN ?_ _ | refine blk_drew ?_ | refine blk_alloc ?_ _)); exact BK662.out⟩, ⟨bq1_ HB.out GE662.out⟩⟩
       case rest =>
        clear HC35
        try clear c1
        try clear c2
        try clear p2
        try clear c3
        try clear c4
        try clear c6
        try clear c8
        try clear c9
        try clear c10
        try clear c19
        try clear c19b0
        try clear c19b1
        try clear c21
        try clear c22
        try clear c24
        try clear c30
        try clear c30b0
        try clear c30b1
        try clear c31
        try clear c31b0
        try clear c36
        try clear hcz14_0
        try clear hcz14_1
        try clear hcz14_10
        try clear hcz14_2
        try clear hcz14_3
        try clear hcz14_4
        try clear hcz14_5
        try clear hcz14_6
        try clear hcz14_7
        try clear hcz14_8
        try clear hcz14_9
        try clear hcz25_0
        try clear hcz25_1
        try clear hcz25_10
        try clear hcz25_2
        try clear hcz25_3
        try clear hcz25_4
        try clear hcz25_5
        try clear hcz25_6
        try clear hcz25_7
        try clear hcz25_8
        try clear hcz25_9
        try clear hcz27_0
        try clear hcz27_1
        try clear hcz27_10
        try clear hcz27_2
        try clear hcz27_3
        try clear hcz27_4
        try clear hcz27_5
        try clear hcz27_6
        try clear hcz27_7
        try clear hcz27_8
        try clear hcz27_9
        try clear hcz32_0
        try clear hcz32_1
        try clear hcz32_10
        try clear hcz32_2
        try clear hcz32_3
        try clear hcz32_4
        try clear hcz32_5
        try clear hcz32_6
        try clear hcz32_7
        try clear hcz32_8
        try clear hcz32_9
        try clear hcz33_0
        try clear hcz33_1
        try clear hcz33_10
        try clear hcz33_2
        try clear hcz33_3
        try clear hcz33_4
        try clear hcz33_5
        try clear hcz33_6
        try clear hcz33_7
        try clear hcz33_8
        try clear hcz33_9
        try clear hcz34_0
        try clear hcz34_1
        try clear hcz34_10
        try clear hcz34_2
        try clear hcz34_3
        try clear hcz34_4
        try clear hcz34_5
        try clear hcz34_6
        try clear hcz34_7
        try clear hcz34_8
        try clear hcz34_9
        try clear hcz9_0
        try clear hcz9_1
        try clear hcz9_10
        try clear hcz9_2
        try clear hcz9_3
        try clear hcz9_4
        try clear hcz9_5
        try clear hcz9_6
        try clear hcz9_7
        try clear hcz9_8
        try clear hcz9_9
        try clear hfz14_0
        try clear hfz14_1
        try clear hfz14_10
        try clear hfz14_2
        try clear hfz14_3
        try clear hfz14_4
        try clear hfz14_5
        try clear hfz14_6
        try clear hfz14_7
        try clear hfz14_8
        try clear hfz14_9
        try clear hfz25_0
        try clear hfz25_1
        try clear hfz25_10
        try clear hfz25_2
        try clear hfz25_3
        try clear hfz25_4
        try clear hfz25_5
        try clear hfz25_6
        try clear hfz25_7
        try clear hfz25_8
        try clear hfz25_9
        try clear hfz27_0
        try clear hfz27_1
        try clear hfz27_10
        try clear hfz27_2
        try clear hfz27_3
        try clear hfz27_4
        try clear hfz27_5
        try clear hfz27_6
        try clear hfz27_7
        try clear hfz27_8
        try clear hfz27_9
        try clear hfz32_0
        try clear hfz32_1
        try clear hfz32_10
        try clear hfz32_2
        try clear hfz32_3
        try clear hfz32_4
        try clear hfz32_5
        try clear hfz32_6
        try clear hfz32_7
        try clear hfz32_8
        try clear hfz32_9
        try clear hfz33_0
        try clear hfz33_1
        try clear hfz33_10
        try clear hfz33_2
        try clear hfz33_3
        try clear hfz33_4
        try clear hfz33_5
        try clear hfz33_6
        try clear hfz33_7
        try clear hfz33_8
        try clear hfz33_9
        try clear hfz34_0
        try clear hfz34_1
        try clear hfz34_10
        try clear hfz34_2
        try clear hfz34_3
        try clear hfz34_4
        try clear hfz34_5
        try clear hfz34_6
        try clear hfz34_7
        try clear hfz34_8
        try clear hfz34_9
        try clear hfz9_0
        try clear hfz9_1
        try clear hfz9_10
        try clear hfz9_2
        try clear hfz9_3
        try clear hfz9_4
        try clear hfz9_5
        try clear hfz9_6
        try clear hfz9_7
        try clear hfz9_8
        try clear hfz9_9
        try clear p2
        obtain ⟨kq, x6_34, rfl, HA, HJ34, HO_4, HO_663002, HO_663003, HO_663004, BK662, HB⟩ := hcut
        cases kq with
        | zero => exact absurd HA.out (by simp [fullerlaw23_ScriptSizes.j2])
        | succ kj34 =>
         have H := HA.out
         clear HA
         simp only [fullerlaw23_ScriptSizes.j2] at H
         have HC37 := Aside0.mk H
         clear H
         have hcz38_0 := cz0_ BK662.out
         have hcz38_1 := cz1_ BK662.out
         have hcz38_2 := cz2_ BK662.out
         have hcz38_3 := hc_ BK662 3
         have hcz38_4 := hc_ BK662 4
         have hcz38_5 := hc_ BK662 5
         have hcz38_6 := hc_ BK662 6
         have hcz38_7 := hc_ BK662 7
         have hcz38_8 := hc_ BK662 8
         have hcz38_9 := hc_ BK662 9
         have hcz38_10 := hc_ BK662 10
         have hfz38_0 := blk_frozen BK662.out 0
         have hfz38_1 := blk_frozen BK662.out 1
         have hfz38_2 := blk_frozen BK662.out 2
         have hfz38_3 := blk_frozen BK662.out 3
         have hfz38_4 := blk_frozen BK662.out 4
         have hfz38_5 := blk_frozen BK662.out 5
         have hfz38_6 := blk_frozen BK662.out 6
         have hfz38_7 := blk_frozen BK662.out 7
         have hfz38_8 := blk_frozen BK662.out 8
         have hfz38_9 := blk_frozen BK662.out 9
         have hfz38_10 := blk_frozen BK662.out 10
         go_upto_if 55 with (fail)
         go_cut [6] (fun v6 wc => ∃ (kq : Nat) (x6_36 : Int), v6 = .int .i64 x6_36 ∧ Aside0 (fullerlaw23_ScriptSizes.j3 kq t663 t671 x6_36 a0_0 a0_1 l0_2 l0_3 l0_4 a0_5 a0_6 a0_7 a0_8 a0_9 a0_10 = some r) ∧ Aside0 (kq ≤ kj34) ∧ Aside0 (Kd.R (Kd.int .u8) 5 wc w.heap.size (fun k_ => (w.heap.size ≤ k_)) v673 t671) ∧ Aside0 (Kd.V k48 48 wc w.heap.size (fun k_ => ((P0_2_ k_ ∨ P0_3_ k_ ∨ P0_4_ k_) ∨ w.heap.size ≤ k_) ∧ k_ ≠ gb662) (.slice A0_2 l0_2.length c0_2) l0_2) ∧ Aside0 (Kd.V (Kd.int .i64) 3 wc w.heap.size (fun k_ => ((P0_2_ k_ ∨ P0_3_ k_ ∨ P0_4_ k_) ∨ w.heap.size ≤ k_) ∧ k_ ≠ gb662) (.slice A0_3 l0_3.length c0_3) l0_3) ∧ Aside0 (Kd.V (Kd.int .i64) 3 wc w.heap.size (fun k_ => ((P0_2_ k_ ∨ P0_3_ k_ ∨ P0_4_ k_) ∨ w.heap.size ≤ k_) ∧ k_ ≠ gb662) (.slice A0_4 l0_4.length c0_4) l0_4) ∧ Aside0 (wc.heap[gb662]? = some (.cells #[.int .i64 a0_0, .int .i64 a0_1, (.slice A0_2 l0_2.length c0_2), (.slice A0_3 l0_3.length c0_3), (.slice A0_4 l0_4.length c0_4), .int .i64 a0_5, .int .i64 a0_6, .int .i64 a0_7, .int .i64 a0_8, .int .i64 a0_9, .int .i64 a0_10] 30 (0, 0))) ∧ Aside0 (Below w.heap.size w wc))
         case first =>
          have H := HC37.out
          clear HC37
          by_cases c39 : a0_0 = 3
          ·rw [if_pos c39] at H
           obtain ⟨c39b0, c39b1⟩ := eqT_ c39
           clear c39
           (first | rw [c39b0] | (simp only [i64_w, i32_w]; rw [c39b0]) | rw [c39b1] | skip)
           have H' := Aside0.mk H
           clear H
           go_wp2
           go_meet
           case rel => exact ⟨_, (28), (by first | rfl | (simp; done) | (simp [*]; done)), H', ⟨by have := HJ5.out; have := HJ28.out; have := HJ34.out; first | omega | exact Nat.le_refl _⟩, ⟨mvR_ HO_4.out⟩, ⟨mvV_ HO_663002.out⟩, ⟨mvV_ HO_663003.out⟩, ⟨mvV_ HO_663004.out⟩, ⟨by (with_reducible repeat (first | refine blk_drewN ?_ _ | refine blk_drew ?_ | refine blk_alloc ?_ _)); exact BK662.out⟩, ⟨bq1_ HB.out GE662.out⟩⟩
          ·rw [if_neg c39] at H
           have c39b0 : (a0_0 == 3) = false := beq_eq_false_iff_ne.mpr c39
           have c39b1 : (a0_0 != 3) = true := bne_iff_ne.mpr c39
           (first | rw [c39b0] | (simp only [i64_w, i32_w]; rw [c39b0]) | rw [c39b1] | skip)
           have H' := Aside0.mk H
           clear H
           go_wp2
           go_meet
           case rel => exact ⟨_, (x6_34), (by first | rfl | (simp; done) | (simp [*]; done)), H', ⟨by have := HJ5.out; have := HJ28.out; have := HJ34.out; first | omega | exact Nat.le_refl _⟩, ⟨mvR_ HO_4.out⟩, ⟨mvV_ HO_663002.out⟩, ⟨mvV_ HO_663003.out⟩, ⟨mvV_ HO_663004.out⟩, ⟨by (with_reducible repeat (first | refine blk_drewN ?_ _ | refine blk_drew ?_ | refine blk_alloc ?_ _)); exact BK662.out⟩, ⟨bq1_ HB.out GE662.out⟩⟩
         case rest =>
          clear HC37
          try clear c1
          try clear c2
          try clear p2
          try clear c3
          try clear c4
          try clear c6
          try clear c8
          try clear c9
          try clear c10
          try clear c19
          try clear c19b0
          try clear c19b1
          try clear c21
          try clear c22
          try clear c24
          try clear c30
          try clear c30b0
          try clear c30b1
          try clear c31
          try clear c31b0
          try clear c36
          try clear c39
          try clear c39b0
          try clear c39b1
          try clear hcz14_0
          try clear hcz14_1
          try clear hcz14_10
          try clear hcz14_2
          try clear hcz14_3
          try clear hcz14_4
          try clear hcz14_5
          try clear hcz14_6
          try clear hcz14_7
          try clear hcz14_8
          try clear hcz14_9
          try clear hcz25_0
          try clear hcz25_1
          try clear hcz25_10
          try clear hcz25_2
          try clear hcz25_3
          try clear hcz25_4
          try clear hcz25_5
          try clear hcz25_6
          try clear hcz25_7
          try clear hcz25_8
          try clear hcz25_9
          try clear hcz27_0
          try clear hcz27_1
          try clear hcz27_10
          try clear hcz27_2
          try clear hcz27_3
          try clear hcz27_4
          try clear hcz27_5
          try clear hcz27_6
          try clear hcz27_7
          try clear hcz27_8
          try clear hcz27_9
          try clear hcz32_0
          try clear hcz32_1
          try clear hcz32_10
          try clear hcz32_2
          try clear hcz32_3
          try clear hcz32_4
          try clear hcz32_5
          try clear hcz32_6
          try clear hcz32_7
          try clear hcz32_8
          try clear hcz32_9
          try clear hcz33_0
          try clear hcz33_1
          try clear hcz33_10
          try clear hcz33_2
          try clear hcz33_3
          try clear hcz33_4
          try clear hcz33_5
          try clear hcz33_6
          try clear hcz33_7
          try clear hcz33_8
          try clear hcz33_9
          try clear hcz34_0
          try clear hcz34_1
          try clear hcz34_10
          try clear hcz34_2
          try clear hcz34_3
          try clear hcz34_4
          try clear hcz34_5
          try clear hcz34_6
          try clear hcz34_7
          try clear hcz34_8
          try clear hcz34_9
          try clear hcz38_0
          try clear hcz38_1
          try clear hcz38_10
          try clear hcz38_2
          try clear hcz38_3
          try clear hcz38_4
          try clear hcz38_5
          try clear hcz38_6
          try clear hcz38_7
          try clear hcz38_8
          try clear hcz38_9
          try clear hcz9_0
          try clear hcz9_1
          try clear hcz9_10
          try clear hcz9_2
          try clear hcz9_3
          try clear hcz9_4
          try clear hcz9_5
          try clear hcz9_6
          try clear hcz9_7
          try clear hcz9_8
          try clear hcz9_9
          try clear hfz14_0
          try clear hfz14_1
          try clear hfz14_10
          try clear hfz14_2
          try clear hfz14_3
          try clear hfz14_4
          try clear hfz14_5
          try clear hfz14_6
          try clear hfz14_7
          try clear hfz14_8
          try clear hfz14_9
          try clear hfz25_0
          try clear hfz25_1
          try clear hfz25_10
          try clear hfz25_2
          try clear hfz25_3
          try clear hfz25_4
          try clear hfz25_5
          try clear hfz25_6
          try clear hfz25_7
          try clear hfz25_8
          try clear hfz25_9
          try clear hfz27_0
          try clear hfz27_1
          try clear hfz27_10
          try clear hfz27_2
          try clear hfz27_3
          try clear hfz27_4
          try clear hfz27_5
          try clear hfz27_6
          try clear hfz27_7
          try clear hfz27_8
          try clear hfz27_9
          try clear hfz32_0
          try clear hfz32_1
          try clear hfz32_10
          try clear hfz32_2
          try clear hfz32_3
          try clear hfz32_4
          try clear hfz32_5
          try clear hfz32_6
          try clear hfz32_7
          try clear hfz32_8
          try clear hfz32_9
          try clear hfz33_0
          try clear hfz33_1
          try clear hfz33_10
          try clear hfz33_2
          try clear hfz33_3
          try clear hfz33_4
          try clear hfz33_5
          try clear hfz33_6
          try clear hfz33_7
          try clear hfz33_8
          try clear hfz33_9
          try clear hfz34_0
          try clear hfz34_1
          try clear hfz34_10
          try clear hfz34_2
          try clear hfz34_3
          try clear hfz34_4
          try clear hfz34_5
          try clear hfz34_6
          try clear hfz34_7
          try clear hfz34_8
          try clear hfz34_9
          try clear hfz38_0
          try clear hfz38_1
          try clear hfz38_10
          try clear hfz38_2
          try clear hfz38_3
          try clear hfz38_4
          try clear hfz38_5
          try clear hfz38_6
          try clear hfz38_7
          try clear hfz38_8
          try clear hfz38_9
          try clear hfz9_0
          try clear hfz9_1
          try clear hfz9_10
          try clear hfz9_2
          try clear hfz9_3
          try clear hfz9_4
          try clear hfz9_5
          try clear hfz9_6
          try clear hfz9_7
          try clear hfz9_8
          try clear hfz9_9
          try clear p2
          obtain ⟨kq, x6_36, rfl, HA, HJ36, HO_4, HO_663002, HO_663003, HO_663004, BK662, HB⟩ := hcut
          cases kq with
          | zero => exact absurd HA.out (by simp [fullerlaw23_ScriptSizes.j3])
          | succ kj36 =>
           have H := HA.out
           clear HA
           simp only [fullerlaw23_ScriptSizes.j3] at H
           by_cases c40 : a0_0 = 2
           ·rw [if_pos c40] at H
            obtain ⟨c40b0, c40b1⟩ := eqT_ c40
            clear c40
            replace H := Option.bind_eq_some_iff.mp H
            obtain ⟨⟨t676, t677⟩, A410, H⟩ := H
            replace H : ((image_Put.f kj36 ([] : List Int) l0_3 l0_4).bind fun bt680 => (if t677 = 0 then (if bt680.2 = 0 then (if t663 = true then (if (t671.length : Int) = (wrap64 ((wrap64 (5 + (t676.length : Int))) + (bt680.1.length : Int))) then (if 0 < (t671.length : Int) then (if (wrap64 (rd t671 0)) = a0_0 then ((script_Check.f kj36 a0_0 a0_1 l0_2 l0_3 l0_4 a0_5 a0_6 a0_7 a0_8 a0_9 a0_10).bind fun t685 => (some t685)) else (some false)) else (none)) else (some false)) else (some false)) else (if (bt680.1.length : Int) = 0 then (if t663 = true then (if (t671.length : Int) = (wrap64 ((wrap64 (5 + (t676.length : Int))) + (bt680.1.length : Int))) then (if 0 < (t671.length : Int) then (if (wrap64 (rd t671 0)) = a0_0 then ((script_Check.f kj36 a0_0 a0_1 l0_2 l0_3 l0_4 a0_5 a0_6 a0_7 a0_8 a0_9 a0_10).bind fun t687 => (some t687)) else (some false)) else (none)) else (some false)) else (some false)) else (some false))) else (some false))) = some r := H
            have A41 := Aside0.mk A410
            clear A410
            replace H := Option.bind_eq_some_iff.mp H
            obtain ⟨⟨t680, t683⟩, A420, H⟩ := H
            replace H : (if t677 = 0 then (if t683 = 0 then (if t663 = true then (if (t671.length : Int) = (wrap64 ((wrap64 (5 + (t676.length : Int))) + (t680.length : Int))) then (if 0 < (t671.length : Int) then (if (wrap64 (rd t671 0)) = a0_0 then ((script_Check.f kj36 a0_0 a0_1 l0_2 l0_3 l0_4 a0_5 a0_6 a0_7 a0_8 a0_9 a0_10).bind fun t685 => (some t685)) else (some false)) else (none)) else (some false)) else (some false)) else (if (t680.length : Int) = 0 then (if t663 = true then (if (t671.length : Int) = (wrap64 ((wrap64 (5 + (t676.length : Int))) + (t680.length : Int))) then (if 0 < (t671.length : Int) then (if (wrap64 (rd t671 0)) = a0_0 then ((script_Check.f kj36 a0_0 a0_1 l0_2 l0_3 l0_4 a0_5 a0_6 a0_7 a0_8 a0_9 a0_10).bind fun t687 => (some t687)) else (some false)) else (none)) else (some false)) else (some false)) else (some false))) else (some false)) = some r := H
            have A42 := Aside0.mk A420
            clear A420
            by_cases c43 : t677 = 0
            ·rw [if_pos c43] at H
             obtain ⟨c43b0, c43b1⟩ := eqT_ c43
             clear c43
             by_cases c44 : t683 = 0
             ·rw [if_pos c44] at H
              obtain ⟨c44b0, c44b1⟩ := eqT_ c44
              clear c44
              by_cases c45 : t663 = true
              ·subst c45
               have H1 : (if (t671.length : Int) = (wrap64 ((wrap64 (5 + (t676.length : Int))) + (t680.length : Int))) then (if 0 < (t671.length : Int) then (if (wrap64 (rd t671 0)) = a0_0 then ((script_Check.f kj36 a0_0 a0_1 l0_2 l0_3 l0_4 a0_5 a0_6 a0_7 a0_8 a0_9 a0_10).bind fun t685 => (some t685)) else (some false)) else (none)) else (some false)) = some r := by rw [if_pos rfl] at H; exact H
               clear H
               have H := H1
               clear H1
               by_cases c46 : (t671.length : Int) = (wrap64 ((wrap64 (5 + (t676.length : Int))) + (t680.length : Int)))
               ·rw [if_pos c46] at H
                obtain ⟨c46b0, c46b1⟩ := eqT_ c46
                clear c46
                by_cases c47 : 0 < (t671.length : Int)
                ·rw [if_pos c47] at H
                 have c47b0 : decide (0 < (t671.length : Int)) = true := decide_eq_true c47
                 have c47b1 : decide (0 < t671.length) = true := decide_eq_true (by omega)
                 clear c47
                 by_cases c48 : (wrap64 (rd t671 0)) = a0_0
                 ·rw [if_pos c48] at H
                  obtain ⟨c48b0, c48b1⟩ := eqT_ c48
                  clear c48
                  replace H := Option.bind_eq_some_iff.mp H
                  obtain ⟨t685, A490, H⟩ := H
                  replace H : (some t685) = some r := H
                  have A49 := Aside0.mk A490
                  clear A490
                  obtain rfl := Option.some.inj H
                  have hcz50_0 := cz0_ BK662.out
                  have hcz50_1 := cz1_ BK662.out
                  have hcz50_2 := cz2_ BK662.out
                  have hcz50_3 := hc_ BK662 3
                  have hcz50_4 := hc_ BK662 4
                  have hcz50_5 := hc_ BK662 5
                  have hcz50_6 := hc_ BK662 6
                  have hcz50_7 := hc_ BK662 7
                  have hcz50_8 := hc_ BK662 8
                  have hcz50_9 := hc_ BK662 9
                  have hcz50_10 := hc_ BK662 10
                  have hfz50_0 := blk_frozen BK662.out 0
                  have hfz50_1 := blk_frozen BK662.out 1
                  have hfz50_2 := blk_frozen BK662.out 2
                  have hfz50_3 := blk_frozen BK662.out 3
                  have hfz50_4 := blk_frozen BK662.out 4
                  have hfz50_5 := blk_frozen BK662.out 5
                  have hfz50_6 := blk_frozen BK662.out 6
                  have hfz50_7 := blk_frozen BK662.out 7
                  have hfz50_8 := blk_frozen BK662.out 8
                  have hfz50_9 := blk_frozen BK662.out 9
                  have hfz50_10 := blk_frozen BK662.out 10
                  try go_wp2_with (first | ((with_reducible refine gate_callee (f := 17) rfl ?_); refine gL_ (some 62) Try.func17 #[.slice A0_2 l0_2.length c0_2] ?_; (with_reducible refine (wire_Write.calls kj36 _ _ l0_2 t676 t677 _ ?side1 ?side2 A41.out).mono ?_); (case side1 => exact mvC_ ((Kd.V_reads' HO_663002.out).2.2)); (case side2 => exact (Kd.V_reads' HO_663002.out).2.1); rintro e w51 ⟨v678, rfl, ho0, hb⟩; refine ⟨_, rfl, ?_⟩; have HO679 := Aside0.mk (Kd.R_lower (Kd.R_newM (M := fun k_ => (w.heap.size ≤ k_)) ho0 (below_size (bq1_ HB.out GE662.out)) (fun k_ h_ => h_)) (below_size (bq1_ HB.out GE662.out))); replace HO_4 := mbR_ HO_4.out hb; replace HO_663002 := mbV_ HO_663002.out hb; replace HO_663003 := mbV_ HO_663003.out hb; replace HO_663004 := mbV_ HO_663004.out hb; replace BK662 := mvB_ BK662.out hb; replace HB := Aside0.mk (below_step (bq1_ HB.out GE662.out) hb); (try clear hb); (try clear ho0); have hcz52_0 := cz0_ BK662.out; have hcz52_1 := cz1_ BK662.out; have hcz52_2 := cz2_ BK662.out; have hcz52_3 := hc_ BK662 3; have hcz52_4 := hc_ BK662 4; have hcz52_5 := hc_ BK662 5; have hcz52_6 := hc_ BK662 6; have hcz52_7 := hc_ BK662 7; have hcz52_8 := hc_ BK662 8; have hcz52_9 := hc_ BK662 9; have hcz52_10 := hc_ BK662 10; have hfz52_0 := blk_frozen BK662.out 0; have hfz52_1 := blk_frozen BK662.out 1; have hfz52_2 := blk_frozen BK662.out 2; have hfz52_3 := blk_frozen BK662.out 3; have hfz52_4 := blk_frozen BK662.out 4; have hfz52_5 := blk_frozen BK662.out 5; have hfz52_6 := blk_frozen BK662.out 6; have hfz52_7 := blk_frozen BK662.out 7; have hfz52_8 := blk_frozen BK662.out 8; have hfz52_9 := blk_frozen BK662.out 9; have hfz52_10 := blk_frozen BK662.out 10) | ((with_reducible refine gate_callee (f := 18) rfl ?_); refine gL_ (some 68) Try.func18 #[.slice none 0 0, .agg #[.slice A0_3 l0_3.length c0_3, .slice A0_4 l0_4.length c0_4]] ?_; (refine (image_Put.calls kj36 _ _ ([] : List Int) _ _ l0_3 _ _ l0_4 t680 t683 _ ?side1 ?side2 ?side3 ?side4 ?side5 ?side6 A42.out).mono ?_); (case side1 => exact Kd.C_nil _ _); (case side2 => exact Nat.le_refl _); (case side3 => exact mvC_ ((Kd.V_reads' HO_663003.out).2.2)); (case side4 => exact (Kd.V_reads' HO_663003.out).2.1); (case side5 => exact mvC_ ((Kd.V_reads' HO_663004.out).2.2)); (case side6 => exact (Kd.V_reads' HO_663004.out).2.1); rintro e w53 ⟨v681, rfl, ho0, hb⟩; refine ⟨_, rfl, ?_⟩; have HO682 := Aside0.mk (Kd.R_lower (Kd.R_newM (M := fun k_ => (w.heap.size ≤ k_)) ho0 (below_size (bq1_ HB.out GE662.out)) (fun k_ h_ => h_)) (below_size (bq1_ HB.out GE662.out))); replace HO_4 := mbR_ HO_4.out hb; replace HO_663002 := mbV_ HO_663002.out hb; replace HO_663003 := mbV_ HO_663003.out hb; replace HO_663004 := mbV_ HO_663004.out hb; replace HO679 := mbR_ HO679.out hb; replace BK662 := mvB_ BK662.out hb; replace HB := Aside0.mk (below_step (bq1_ HB.out GE662.out) hb); (try clear hb); (try clear ho0); obtain ⟨Ao54, co54, eo54⟩ := Kd.R_slice HO679.out; subst eo54; obtain ⟨Ao55, co55, eo55⟩ := Kd.R_slice HO682.out; subst eo55))
                  replace HO_4 := Aside0.mk (Kd.R_drew HO_4.out)
                  replace HO_663002 := Aside0.mk (Kd.V_drew HO_663002.out)
                  replace HO_663003 := Aside0.mk (Kd.V_drew HO_663003.out)
                  replace HO_663004 := Aside0.mk (Kd.V_drew HO_663004.out)
                  replace HO679 := Aside0.mk (Kd.R_drew HO679.out)
                  replace HO682 := Aside0.mk (Kd.R_drew HO682.out)
                  replace BK662 := Aside0.mk (blk_drew BK662.out)
                  replace HB := Aside0.mk (below_drew1 HB.out)
                  obtain ⟨Ao57, co57, eo57⟩ := Kd.R_slice HO_4.out
                  (first | subst eo57 | (injection eo57 with f1_ f2_ f3_; have f4_ := f1_.symm; have f5_ := f3_.symm; clear f1_ f2_ f3_; subst f4_; subst f5_))
                  have p684 : 0 ≤ (0 : Int) := (by omega)
                  have q684 : 0 < (t671.length : Int) := od_
                  obtain ⟨ad684, e684, hx684_0⟩ := Kd.at_int (Kd.R_reads' HO_4.out).2.2 0 p684 q684
                  cases e684
                  have qi684 : (0 < t671.length) = True := eq_true (by omega)
                  (try rw [show ((0 : Int)).toNat = 0 from rfl] at hx684_0)
                  (try rw [Addr.add_zero'] at hx684_0)
                  replace p684 := eq_true p684
                  replace q684 := eq_true q684
                  refine start_ (n := 21) (S := fun w' => w'.cell? ⟨gb662, 0, none⟩ = some (.int .i64 a0_0) ∧ w'.cell? ⟨gb662, 1, none⟩ = some (.int .i64 a0_1) ∧ w'.cell? ⟨gb662, 2, none⟩ = some (.slice A0_2 l0_2.length c0_2) ∧ w'.cell? ⟨gb662, 3, none⟩ = some (.slice A0_3 l0_3.length c0_3) ∧ w'.cell? ⟨gb662, 4, none⟩ = some (.slice A0_4 l0_4.length c0_4) ∧ w'.cell? ⟨gb662, 5, none⟩ = some (.int .i64 a0_5) ∧ w'.cell? ⟨gb662, 6, none⟩ = some (.int .i64 a0_6) ∧ w'.cell? ⟨gb662, 7, none⟩ = some (.int .i64 a0_7) ∧ w'.cell? ⟨gb662, 8, none⟩ = some (.int .i64 a0_8) ∧ w'.cell? ⟨gb662, 9, none⟩ = some (.int .i64 a0_9) ∧ w'.cell? ⟨gb662, 10, none⟩ = some (.int .i64 a0_10) ∧ w'.cell? ad684 = some (.int .u8 (rd t671 0))) (ds := []) L6_0 (by kernel_rfl) rfl rfl ⟨(blk_cell BK662.out 0).trans rfl, (blk_cell BK662.out 1).trans rfl, (blk_cell BK662.out 2).trans rfl, (blk_cell BK662.out 3).trans rfl, (blk_cell BK662.out 4).trans rfl, (blk_cell BK662.out 5).trans rfl, (blk_cell BK662.out 6).trans rfl, (blk_cell BK662.out 7).trans rfl, (blk_cell BK662.out 8).trans rfl, (blk_cell BK662.out 9).trans rfl, (blk_cell BK662.out 10).trans rfl, hx684_0⟩ (fun hHeld => ?_); refine with_tabW fullerlaw23_ScriptSizes.tab18 fullerlaw23_ScriptSizes.bits18 (fun HT_ HW_ => ?_)
                  generalize w53.drew = w56 at HO_4 HO_663002 HO_663003 HO_663004 HO679 HO682 BK662 HB hx684_0 hHeld ⊢
                  refine pu_ 0 (some 88) L6_1 HT_ ?_
                  refine pu_ 1 (some 89) L6_2 HT_ ?_
                  refine pu_ 2 (some 90) L6_3 HT_ ?_
                  refine pu_ 3 (some 91) L6_4 HT_ ?_
                  refine pu_ 4 (some 92) L6_5 HT_ ?_
                  refine pu_ 5 (some 93) L6_6 HT_ ?_
                  refine pu_ 6 (some 94) L6_7 HT_ ?_
                  refine pu_ 7 (some 95) L6_8 HT_ ?_
                  refine pu_ 8 (some 96) L6_9 HT_ ?_
                  refine pu_ 9 (some 97) L6_10 HT_ ?_
                  refine pu_ 12 (some 100) L6_11 HT_ ?_
                  refine ta_ 10 (some 98) L6_12 HT_ HW_ hHeld ?_ (hy := by rintro w' ⟨s0, s1, s2, s3, s4, s5, s6, s7, s8, s9, s10, s11⟩; go_simp; with_reducible rfl)
                  refine pu_ 11 (some 99) L6_13 HT_ ?_
                  refine ta_ 13 (some 101) L6_14 HT_ HW_ hHeld ?_ (hy := by rintro w' ⟨s0, s1, s2, s3, s4, s5, s6, s7, s8, s9, s10, s11⟩; go_simp; with_reducible rfl)
                  refine pu_ 14 (some 102) L6_15 HT_ ?_
                  refine pu_ 15 (some 103) L6_16 HT_ ?_
                  refine pu_ 16 (some 104) L6_17 HT_ ?_
                  refine ta_ 17 (some 105) L6_18 HT_ HW_ hHeld ?_ (hy := by rintro w' ⟨s0, s1, s2, s3, s4, s5, s6, s7, s8, s9, s10, s11⟩; go_simp; with_reducible rfl)
                  refine one_ (i := 18) (N := some 106) L6_19 rfl rfl (one_of HT_.out (by kernel_rfl)) (by decide) (fun K hK => ?_)
                  refine goes_ Try.func15 (by kernel_rfl) rfl #[.agg #[.int .i64 a0_0, .int .i64 a0_1, .slice A0_2 l0_2.length c0_2, .slice A0_3 l0_3.length c0_3, .slice A0_4 l0_4.length c0_4, .int .i64 a0_5, .int .i64 a0_6, .int .i64 a0_7, .int .i64 a0_8, .int .i64 a0_9, .int .i64 a0_10]] (by rfl) rfl rfl (by (try simp only [List.map_toArray, List.map_cons, List.map_nil]); first | done | rfl | (simp only [List.length_drop, List.length_take]; rfl)) ?_
                  with_reducible refine (script_Check.calls kj36 a0_0 a0_1 _ _ l0_2 _ _ l0_3 _ _ l0_4 a0_5 a0_6 a0_7 a0_8 a0_9 a0_10 t685 _ ?side1 ?side2 ?side3 ?side4 ?side5 ?side6 A49.out).mono ?_
                  (case side1 => exact mvC_ ((Kd.V_reads' HO_663002.out).2.2))
                  (case side2 => exact (Kd.V_reads' HO_663002.out).2.1)
                  (case side3 => exact mvC_ ((Kd.V_reads' HO_663003.out).2.2))
                  (case side4 => exact (Kd.V_reads' HO_663003.out).2.1)
                  (case side5 => exact mvC_ ((Kd.V_reads' HO_663004.out).2.2))
                  (case side6 => exact (Kd.V_reads' HO_663004.out).2.1)
                  rintro e w58 ⟨rfl, hb⟩
                  have HS11_ := (hb.cell (World.block_lt_of_cell? _ _ (hHeld.2.2.2.2.2.2.2.2.2.2.2))).trans (hHeld.2.2.2.2.2.2.2.2.2.2.2)
                  refine ⟨_, rfl, ?_⟩
                  replace HO_4 := mbR_ HO_4.out hb
                  replace HO_663002 := mbV_ HO_663002.out hb
                  replace HO_663003 := mbV_ HO_663003.out hb
                  replace HO_663004 := mbV_ HO_663004.out hb
                  replace HO679 := mbR_ HO679.out hb
                  replace HO682 := mbR_ HO682.out hb
                  replace BK662 := mvB_ BK662.out hb
                  replace HB := Aside0.mk (below_step (bq1_ HB.out GE662.out) hb)
                  (try clear hb)
                  (try clear hb2)
                  (try clear hk)
                  (try clear hi)
                  refine hK.out _ _ ⟨(blk_cell BK662.out 0).trans rfl, (blk_cell BK662.out 1).trans rfl, (blk_cell BK662.out 2).trans rfl, (blk_cell BK662.out 3).trans rfl, (blk_cell BK662.out 4).trans rfl, (blk_cell BK662.out 5).trans rfl, (blk_cell BK662.out 6).trans rfl, (blk_cell BK662.out 7).trans rfl, (blk_cell BK662.out 8).trans rfl, (blk_cell BK662.out 9).trans rfl, (blk_cell BK662.out 10).trans rfl, HS11_⟩ (fun hHeld => ?_)
                  clear hK K
                  refine norm_ (a' := ?_) ?_ ?_
                  rotate_left
                  ·show Act.put _ (some 106) _ = _
                   simp only [Act.put, sA_, sB_, sC_, i64_w, i32_w]
                   rfl
                  refine pu_ 19 (some 107) L6_20 HT_ ?_
                  refine pu_ 20 (some 2) L6_21 HT_ ?_
                  refine done_ (done_of HT_.out (by kernel_rfl)) ?_
                  try go_wp2
                  go_ret
                  exact ⟨by first | rfl | (simp <;> rfl) | (simp [*] <;> rfl), bq1_ HB.out GE662.out⟩
                 ·rw [if_neg c48] at H
                  have c48b0 : ((wrap64 (rd t671 0)) == a0_0) = false := beq_eq_false_iff_ne.mpr c48
                  have c48b1 : ((wrap64 (rd t671 0)) != a0_0) = true := bne_iff_ne.mpr c48
                  obtain rfl := Option.some.inj H
                  have hcz59_0 := cz0_ BK662.out
                  have hcz59_1 := cz1_ BK662.out
                  have hcz59_2 := cz2_ BK662.out
                  have hcz59_3 := hc_ BK662 3
                  have hcz59_4 := hc_ BK662 4
                  have hcz59_5 := hc_ BK662 5
                  have hcz59_6 := hc_ BK662 6
                  have hcz59_7 := hc_ BK662 7
                  have hcz59_8 := hc_ BK662 8
                  have hcz59_9 := hc_ BK662 9
                  have hcz59_10 := hc_ BK662 10
                  have hfz59_0 := blk_frozen BK662.out 0
                  have hfz59_1 := blk_frozen BK662.out 1
                  have hfz59_2 := blk_frozen BK662.out 2
                  have hfz59_3 := blk_frozen BK662.out 3
                  have hfz59_4 := blk_frozen BK662.out 4
                  have hfz59_5 := blk_frozen BK662.out 5
                  have hfz59_6 := blk_frozen BK662.out 6
                  have hfz59_7 := blk_frozen BK662.out 7
                  have hfz59_8 := blk_frozen BK662.out 8
                  have hfz59_9 := blk_frozen BK662.out 9
                  have hfz59_10 := blk_frozen BK662.out 10
                  try go_wp2_with (first | ((with_reducible refine gate_callee (f := 17) rfl ?_); refine gL_ (some 62) Try.func17 #[.slice A0_2 l0_2.length c0_2] ?_; (with_reducible refine (wire_Write.calls kj36 _ _ l0_2 t676 t677 _ ?side1 ?side2 A41.out).mono ?_); (case side1 => exact mvC_ ((Kd.V_reads' HO_663002.out).2.2)); (case side2 => exact (Kd.V_reads' HO_663002.out).2.1); rintro e w60 ⟨v678, rfl, ho0, hb⟩; refine ⟨_, rfl, ?_⟩; have HO679 := Aside0.mk (Kd.R_lower (Kd.R_newM (M := fun k_ => (w.heap.size ≤ k_)) ho0 (below_size (bq1_ HB.out GE662.out)) (fun k_ h_ => h_)) (below_size (bq1_ HB.out GE662.out))); replace HO_4 := mbR_ HO_4.out hb; replace HO_663002 := mbV_ HO_663002.out hb; replace HO_663003 := mbV_ HO_663003.out hb; replace HO_663004 := mbV_ HO_663004.out hb; replace BK662 := mvB_ BK662.out hb; replace HB := Aside0.mk (below_step (bq1_ HB.out GE662.out) hb); (try clear hb); (try clear ho0); have hcz61_0 := cz0_ BK662.out; have hcz61_1 := cz1_ BK662.out; have hcz61_2 := cz2_ BK662.out; have hcz61_3 := hc_ BK662 3; have hcz61_4 := hc_ BK662 4; have hcz61_5 := hc_ BK662 5; have hcz61_6 := hc_ BK662 6; have hcz61_7 := hc_ BK662 7; have hcz61_8 := hc_ BK662 8; have hcz61_9 := hc_ BK662 9; have hcz61_10 := hc_ BK662 10; have hfz61_0 := blk_frozen BK662.out 0; have hfz61_1 := blk_frozen BK662.out 1; have hfz61_2 := blk_frozen BK662.out 2; have hfz61_3 := blk_frozen BK662.out 3; have hfz61_4 := blk_frozen BK662.out 4; have hfz61_5 := blk_frozen BK662.out 5; have hfz61_6 := blk_frozen BK662.out 6; have hfz61_7 := blk_frozen BK662.out 7; have hfz61_8 := blk_frozen BK662.out 8; have hfz61_9 := blk_frozen BK662.out 9; have hfz61_10 := blk_frozen BK662.out 10) | ((with_reducible refine gate_callee (f := 18) rfl ?_); refine gL_ (some 68) Try.func18 #[.slice none 0 0, .agg #[.slice A0_3 l0_3.length c0_3, .slice A0_4 l0_4.length c0_4]] ?_; (refine (image_Put.calls kj36 _ _ ([] : List Int) _ _ l0_3 _ _ l0_4 t680 t683 _ ?side1 ?side2 ?side3 ?side4 ?side5 ?side6 A42.out).mono ?_); (case side1 => exact Kd.C_nil _ _); (case side2 => exact Nat.le_refl _); (case side3 => exact mvC_ ((Kd.V_reads' HO_663003.out).2.2)); (case side4 => exact (Kd.V_reads' HO_663003.out).2.1); (case side5 => exact mvC_ ((Kd.V_reads' HO_663004.out).2.2)); (case side6 => exact (Kd.V_reads' HO_663004.out).2.1); rintro e w62 ⟨v681, rfl, ho0, hb⟩; refine ⟨_, rfl, ?_⟩; have HO682 := Aside0.mk (Kd.R_lower (Kd.R_newM (M := fun k_ => (w.heap.size ≤ k_)) ho0 (below_size (bq1_ HB.out GE662.out)) (fun k_ h_ => h_)) (below_size (bq1_ HB.out GE662.out))); replace HO_4 := mbR_ HO_4.out hb; replace HO_663002 := mbV_ HO_663002.out hb; replace HO_663003 := mbV_ HO_663003.out hb; replace HO_663004 := mbV_ HO_663004.out hb; replace HO679 := mbR_ HO679.out hb; replace BK662 := mvB_ BK662.out hb; replace HB := Aside0.mk (below_step (bq1_ HB.out GE662.out) hb); (try clear hb); (try clear ho0); obtain ⟨Ao63, co63, eo63⟩ := Kd.R_slice HO679.out; subst eo63; obtain ⟨Ao64, co64, eo64⟩ := Kd.R_slice HO682.out; subst eo64))
                  replace HO_4 := Aside0.mk (Kd.R_drew HO_4.out)
                  replace HO_663002 := Aside0.mk (Kd.V_drew HO_663002.out)
                  replace HO_663003 := Aside0.mk (Kd.V_drew HO_663003.out)
                  replace HO_663004 := Aside0.mk (Kd.V_drew HO_663004.out)
                  replace HO679 := Aside0.mk (Kd.R_drew HO679.out)
                  replace HO682 := Aside0.mk (Kd.R_drew HO682.out)
                  replace BK662 := Aside0.mk (blk_drew BK662.out)
                  replace HB := Aside0.mk (below_drew1 HB.out)
                  obtain ⟨Ao66, co66, eo66⟩ := Kd.R_slice HO_4.out
                  (first | subst eo66 | (injection eo66 with f1_ f2_ f3_; have f4_ := f1_.symm; have f5_ := f3_.symm; clear f1_ f2_ f3_; subst f4_; subst f5_))
                  have p684 : 0 ≤ (0 : Int) := (by omega)
                  have q684 : 0 < (t671.length : Int) := od_
                  obtain ⟨ad684, e684, hx684_0⟩ := Kd.at_int (Kd.R_reads' HO_4.out).2.2 0 p684 q684
                  cases e684
                  have qi684 : (0 < t671.length) = True := eq_true (by omega)
                  (try rw [show ((0 : Int)).toNat = 0 from rfl] at hx684_0)
                  (try rw [Addr.add_zero'] at hx684_0)
                  replace p684 := eq_true p684
                  replace q684 := eq_true q684
                  refine start_ (n := 21) (S := fun w' => w'.cell? ⟨gb662, 0, none⟩ = some (.int .i64 a0_0) ∧ w'.cell? ⟨gb662, 1, none⟩ = some (.int .i64 a0_1) ∧ w'.cell? ⟨gb662, 2, none⟩ = some (.slice A0_2 l0_2.length c0_2) ∧ w'.cell? ⟨gb662, 3, none⟩ = some (.slice A0_3 l0_3.length c0_3) ∧ w'.cell? ⟨gb662, 4, none⟩ = some (.slice A0_4 l0_4.length c0_4) ∧ w'.cell? ⟨gb662, 5, none⟩ = some (.int .i64 a0_5) ∧ w'.cell? ⟨gb662, 6, none⟩ = some (.int .i64 a0_6) ∧ w'.cell? ⟨gb662, 7, none⟩ = some (.int .i64 a0_7) ∧ w'.cell? ⟨gb662, 8, none⟩ = some (.int .i64 a0_8) ∧ w'.cell? ⟨gb662, 9, none⟩ = some (.int .i64 a0_9) ∧ w'.cell? ⟨gb662, 10, none⟩ = some (.int .i64 a0_10) ∧ w'.cell? ad684 = some (.int .u8 (rd t671 0))) (ds := []) L6_0 (by kernel_rfl) rfl rfl ⟨(blk_cell BK662.out 0).trans rfl, (blk_cell BK662.out 1).trans rfl, (blk_cell BK662.out 2).trans rfl, (blk_cell BK662.out 3).trans rfl, (blk_cell BK662.out 4).trans rfl, (blk_cell BK662.out 5).trans rfl, (blk_cell BK662.out 6).trans rfl, (blk_cell BK662.out 7).trans rfl, (blk_cell BK662.out 8).trans rfl, (blk_cell BK662.out 9).trans rfl, (blk_cell BK662.out 10).trans rfl, hx684_0⟩ (fun hHeld => ?_); refine with_tabW fullerlaw23_ScriptSizes.tab18 fullerlaw23_ScriptSizes.bits18 (fun HT_ HW_ => ?_)
                  generalize w62.drew = w65 at HO_4 HO_663002 HO_663003 HO_663004 HO679 HO682 BK662 HB hx684_0 hHeld ⊢
                  refine pu_ 0 (some 88) L6_1 HT_ ?_
                  refine pu_ 1 (some 89) L6_2 HT_ ?_
                  refine pu_ 2 (some 90) L6_3 HT_ ?_
                  refine pu_ 3 (some 91) L6_4 HT_ ?_
                  refine pu_ 4 (some 92) L6_5 HT_ ?_
                  refine pu_ 5 (some 93) L6_6 HT_ ?_
                  refine pu_ 6 (some 94) L6_7 HT_ ?_
                  refine pu_ 7 (some 95) L6_8 HT_ ?_
                  refine pu_ 8 (some 96) L6_9 HT_ ?_
                  refine pu_ 9 (some 97) L6_10 HT_ ?_
                  refine pu_ 12 (some 100) L6_11 HT_ ?_
                  refine ta_ 10 (some 98) L6_12 HT_ HW_ hHeld ?_ (hy := by rintro w' ⟨s0, s1, s2, s3, s4, s5, s6, s7, s8, s9, s10, s11⟩; go_simp; with_reducible rfl)
                  refine pu_ 11 (some 99) L6_13 HT_ ?_
                  refine ta_ 13 (some 101) L6_14 HT_ HW_ hHeld ?_ (hy := by rintro w' ⟨s0, s1, s2, s3, s4, s5, s6, s7, s8, s9, s10, s11⟩; go_simp; with_reducible rfl)
                  refine pu_ 14 (some 102) L6_15 HT_ ?_
                  refine pu_ 15 (some 103) L6_16 HT_ ?_
                  refine pu_ 16 (some 104) L6_17 HT_ ?_
                  refine skips_ (fuel := 2) (m := 4) HT_.out (fun _ _ _ _ _ h => h) [(17, 105), (18, 106)] L6_19 rfl (by kernel_rfl) (by kernel_rfl) (a' := ?_) ?_ ?_
                  rotate_left
                  ·simp only [putU, Act.put, sA_, sB_, sC_]
                   rfl
                  refine pu_ 19 (some 107) L6_20 HT_ ?_
                  refine pu_ 20 (some 2) L6_21 HT_ ?_
                  refine done_ (done_of HT_.out (by kernel_rfl)) ?_
                  try go_wp2
                  go_ret
                  exact ⟨by first | rfl | (simp <;> rfl) | (simp [*] <;> rfl), bq1_ HB.out GE662.out⟩
                ·rw [if_neg c47] at H
                 exact absurd H (by simp)
               ·rw [if_neg c46] at H
                have c46b0 : ((t671.length : Int) == (wrap64 ((wrap64 (5 + (t676.length : Int))) + (t680.length : Int)))) = false := beq_eq_false_iff_ne.mpr c46
                have c46b1 : ((t671.length : Int) != (wrap64 ((wrap64 (5 + (t676.length : Int))) + (t680.length : Int)))) = true := bne_iff_ne.mpr c46
                obtain rfl := Option.some.inj H
                have hcz67_0 := cz0_ BK662.out
                have hcz67_1 := cz1_ BK662.out
                have hcz67_2 := cz2_ BK662.out
                have hcz67_3 := hc_ BK662 3
                have hcz67_4 := hc_ BK662 4
                have hcz67_5 := hc_ BK662 5
                have hcz67_6 := hc_ BK662 6
                have hcz67_7 := hc_ BK662 7
                have hcz67_8 := hc_ BK662 8
                have hcz67_9 := hc_ BK662 9
                have hcz67_10 := hc_ BK662 10
                have hfz67_0 := blk_frozen BK662.out 0
                have hfz67_1 := blk_frozen BK662.out 1
                have hfz67_2 := blk_frozen BK662.out 2
                have hfz67_3 := blk_frozen BK662.out 3
                have hfz67_4 := blk_frozen BK662.out 4
                have hfz67_5 := blk_frozen BK662.out 5
                have hfz67_6 := blk_frozen BK662.out 6
                have hfz67_7 := blk_frozen BK662.out 7
                have hfz67_8 := blk_frozen BK662.out 8
                have hfz67_9 := blk_frozen BK662.out 9
                have hfz67_10 := blk_frozen BK662.out 10
                try go_wp2_with (first | ((with_reducible refine gate_callee (f := 17) rfl ?_); refine gL_ (some 62) Try.func17 #[.slice A0_2 l0_2.length c0_2] ?_; (with_reducible refine (wire_Write.calls kj36 _ _ l0_2 t676 t677 _ ?side1 ?side2 A41.out).mono ?_); (case side1 => exact mvC_ ((Kd.V_reads' HO_663002.out).2.2)); (case side2 => exact (Kd.V_reads' HO_663002.out).2.1); rintro e w68 ⟨v678, rfl, ho0, hb⟩; refine ⟨_, rfl, ?_⟩; have HO679 := Aside0.mk (Kd.R_lower (Kd.R_newM (M := fun k_ => (w.heap.size ≤ k_)) ho0 (below_size (bq1_ HB.out GE662.out)) (fun k_ h_ => h_)) (below_size (bq1_ HB.out GE662.out))); replace HO_4 := mbR_ HO_4.out hb; replace HO_663002 := mbV_ HO_663002.out hb; replace HO_663003 := mbV_ HO_663003.out hb; replace HO_663004 := mbV_ HO_663004.out hb; replace BK662 := mvB_ BK662.out hb; replace HB := Aside0.mk (below_step (bq1_ HB.out GE662.out) hb); (try clear hb); (try clear ho0); have hcz69_0 := cz0_ BK662.out; have hcz69_1 := cz1_ BK662.out; have hcz69_2 := cz2_ BK662.out; have hcz69_3 := hc_ BK662 3; have hcz69_4 := hc_ BK662 4; have hcz69_5 := hc_ BK662 5; have hcz69_6 := hc_ BK662 6; have hcz69_7 := hc_ BK662 7; have hcz69_8 := hc_ BK662 8; have hcz69_9 := hc_ BK662 9; have hcz69_10 := hc_ BK662 10; have hfz69_0 := blk_frozen BK662.out 0; have hfz69_1 := blk_frozen BK662.out 1; have hfz69_2 := blk_frozen BK662.out 2; have hfz69_3 := blk_frozen BK662.out 3; have hfz69_4 := blk_frozen BK662.out 4; have hfz69_5 := blk_frozen BK662.out 5; have hfz69_6 := blk_frozen BK662.out 6; have hfz69_7 := blk_frozen BK662.out 7; have hfz69_8 := blk_frozen BK662.out 8; have hfz69_9 := blk_frozen BK662.out 9; have hfz69_10 := blk_frozen BK662.out 10) | ((with_reducible refine gate_callee (f := 18) rfl ?_); refine gL_ (some 68) Try.func18 #[.slice none 0 0, .agg #[.slice A0_3 l0_3.length c0_3, .slice A0_4 l0_4.length c0_4]] ?_; (refine (image_Put.calls kj36 _ _ ([] : List Int) _ _ l0_3 _ _ l0_4 t680 t683 _ ?side1 ?side2 ?side3 ?side4 ?side5 ?side6 A42.out).mono ?_); (case side1 => exact Kd.C_nil _ _); (case side2 => exact Nat.le_refl _); (case side3 => exact mvC_ ((Kd.V_reads' HO_663003.out).2.2)); (case side4 => exact (Kd.V_reads' HO_663003.out).2.1); (case side5 => exact mvC_ ((Kd.V_reads' HO_663004.out).2.2)); (case side6 => exact (Kd.V_reads' HO_663004.out).2.1); rintro e w70 ⟨v681, rfl, ho0, hb⟩; refine ⟨_, rfl, ?_⟩; have HO682 := Aside0.mk (Kd.R_lower (Kd.R_newM (M := fun k_ => (w.heap.size ≤ k_)) ho0 (below_size (bq1_ HB.out GE662.out)) (fun k_ h_ => h_)) (below_size (bq1_ HB.out GE662.out))); replace HO_4 := mbR_ HO_4.out hb; replace HO_663002 := mbV_ HO_663002.out hb; replace HO_663003 := mbV_ HO_663003.out hb; replace HO_663004 := mbV_ HO_663004.out hb; replace HO679 := mbR_ HO679.out hb; replace BK662 := mvB_ BK662.out hb; replace HB := Aside0.mk (below_step (bq1_ HB.out GE662.out) hb); (try clear hb); (try clear ho0); obtain ⟨Ao71, co71, eo71⟩ := Kd.R_slice HO679.out; subst eo71; obtain ⟨Ao72, co72, eo72⟩ := Kd.R_slice HO682.out; subst eo72))
                replace HO_4 := Aside0.mk (Kd.R_drew HO_4.out)
                replace HO_663002 := Aside0.mk (Kd.V_drew HO_663002.out)
                replace HO_663003 := Aside0.mk (Kd.V_drew HO_663003.out)
                replace HO_663004 := Aside0.mk (Kd.V_drew HO_663004.out)
                replace HO679 := Aside0.mk (Kd.R_drew HO679.out)
                replace HO682 := Aside0.mk (Kd.R_drew HO682.out)
                replace BK662 := Aside0.mk (blk_drew BK662.out)
                replace HB := Aside0.mk (below_drew1 HB.out)
                obtain ⟨Ao74, co74, eo74⟩ := Kd.R_slice HO_4.out
                (first | subst eo74 | (injection eo74 with f1_ f2_ f3_; have f4_ := f1_.symm; have f5_ := f3_.symm; clear f1_ f2_ f3_; subst f4_; subst f5_))
                refine start_ (n := 21) (S := fun w' => True) (ds := []) L6_0 (by kernel_rfl) rfl rfl trivial (fun hHeld => ?_); refine with_tabW fullerlaw23_ScriptSizes.tab18 fullerlaw23_ScriptSizes.bits18 (fun HT_ HW_ => ?_)
                generalize w70.drew = w73 at HO_4 HO_663002 HO_663003 HO_663004 HO679 HO682 BK662 HB hHeld ⊢
                refine pu_ 0 (some 88) L6_1 HT_ ?_
                refine pu_ 1 (some 89) L6_2 HT_ ?_
                refine pu_ 2 (some 90) L6_3 HT_ ?_
                refine pu_ 3 (some 91) L6_4 HT_ ?_
                refine pu_ 4 (some 92) L6_5 HT_ ?_
                refine pu_ 5 (some 93) L6_6 HT_ ?_
                refine pu_ 6 (some 94) L6_7 HT_ ?_
                refine pu_ 7 (some 95) L6_8 HT_ ?_
                refine skips_ (fuel := 6) (m := 13) HT_.out (fun _ _ _ _ _ h => h) [(8, 96), (9, 97), (10, 98), (11, 99), (12, 100), (13, 101), (14, 102)] L6_15 rfl (by kernel_rfl) (by kernel_rfl) (a' := ?_) ?_ ?_
                rotate_left
                ·simp only [putU, Act.put, sA_, sB_, sC_]
                 rfl
                refine pu_ 15 (some 103) L6_16 HT_ ?_
                refine pu_ 16 (some 104) L6_17 HT_ ?_
                refine skips_ (fuel := 2) (m := 4) HT_.out (fun _ _ _ _ _ h => h) [(17, 105), (18, 106)] L6_19 rfl (by kernel_rfl) (by kernel_rfl) (a' := ?_) ?_ ?_
                rotate_left
                ·simp only [putU, Act.put, sA_, sB_, sC_]
                 rfl
                refine pu_ 19 (some 107) L6_20 HT_ ?_
                refine pu_ 20 (some 2) L6_21 HT_ ?_
                refine done_ (done_of HT_.out (by kernel_rfl)) ?_
                try go_wp2
                go_ret
                exact ⟨by first | rfl | (simp <;> rfl) | (simp [*] <;> rfl), bq1_ HB.out GE662.out⟩
              ·replace c45 := Bool.eq_false_iff.mpr c45
               subst c45
               have H1 : (some false) = some r := by rw [if_neg (show ¬ (false = true) by decide)] at H; exact H
               clear H
               have H := H1
               clear H1
               obtain rfl := Option.some.inj H
               have hcz75_0 := cz0_ BK662.out
               have hcz75_1 := cz1_ BK662.out
               have hcz75_2 := cz2_ BK662.out
               have hcz75_3 := hc_ BK662 3
               have hcz75_4 := hc_ BK662 4
               have hcz75_5 := hc_ BK662 5
               have hcz75_6 := hc_ BK662 6
               have hcz75_7 := hc_ BK662 7
               have hcz75_8 := hc_ BK662 8
               have hcz75_9 := hc_ BK662 9
               have hcz75_10 := hc_ BK662 10
               have hfz75_0 := blk_frozen BK662.out 0
               have hfz75_1 := blk_frozen BK662.out 1
               have hfz75_2 := blk_frozen BK662.out 2
               have hfz75_3 := blk_frozen BK662.out 3
               have hfz75_4 := blk_frozen BK662.out 4
               have hfz75_5 := blk_frozen BK662.out 5
               have hfz75_6 := blk_frozen BK662.out 6
               have hfz75_7 := blk_frozen BK662.out 7
               have hfz75_8 := blk_frozen BK662.out 8
               have hfz75_9 := blk_frozen BK662.out 9
               have hfz75_10 := blk_frozen BK662.out 10
               try go_wp2_with (first | ((with_reducible refine gate_callee (f := 17) rfl ?_); refine gL_ (some 62) Try.func17 #[.slice A0_2 l0_2.length c0_2] ?_; (with_reducible refine (wire_Write.calls kj36 _ _ l0_2 t676 t677 _ ?side1 ?side2 A41.out).mono ?_); (case side1 => exact mvC_ ((Kd.V_reads' HO_663002.out).2.2)); (case side2 => exact (Kd.V_reads' HO_663002.out).2.1); rintro e w76 ⟨v678, rfl, ho0, hb⟩; refine ⟨_, rfl, ?_⟩; have HO679 := Aside0.mk (Kd.R_lower (Kd.R_newM (M := fun k_ => (w.heap.size ≤ k_)) ho0 (below_size (bq1_ HB.out GE662.out)) (fun k_ h_ => h_)) (below_size (bq1_ HB.out GE662.out))); replace HO_4 := mbR_ HO_4.out hb; replace HO_663002 := mbV_ HO_663002.out hb; replace HO_663003 := mbV_ HO_663003.out hb; replace HO_663004 := mbV_ HO_663004.out hb; replace BK662 := mvB_ BK662.out hb; replace HB := Aside0.mk (below_step (bq1_ HB.out GE662.out) hb); (try clear hb); (try clear ho0); have hcz77_0 := cz0_ BK662.out; have hcz77_1 := cz1_ BK662.out; have hcz77_2 := cz2_ BK662.out; have hcz77_3 := hc_ BK662 3; have hcz77_4 := hc_ BK662 4; have hcz77_5 := hc_ BK662 5; have hcz77_6 := hc_ BK662 6; have hcz77_7 := hc_ BK662 7; have hcz77_8 := hc_ BK662 8; have hcz77_9 := hc_ BK662 9; have hcz77_10 := hc_ BK662 10; have hfz77_0 := blk_frozen BK662.out 0; have hfz77_1 := blk_frozen BK662.out 1; have hfz77_2 := blk_frozen BK662.out 2; have hfz77_3 := blk_frozen BK662.out 3; have hfz77_4 := blk_frozen BK662.out 4; have hfz77_5 := blk_frozen BK662.out 5; have hfz77_6 := blk_frozen BK662.out 6; have hfz77_7 := blk_frozen BK662.out 7; have hfz77_8 := blk_frozen BK662.out 8; have hfz77_9 := blk_frozen BK662.out 9; have hfz77_10 := blk_frozen BK662.out 10) | ((with_reducible refine gate_callee (f := 18) rfl ?_); refine gL_ (some 68) Try.func18 #[.slice none 0 0, .agg #[.slice A0_3 l0_3.length c0_3, .slice A0_4 l0_4.length c0_4]] ?_; (refine (image_Put.calls kj36 _ _ ([] : List Int) _ _ l0_3 _ _ l0_4 t680 t683 _ ?side1 ?side2 ?side3 ?side4 ?side5 ?side6 A42.out).mono ?_); (case side1 => exact Kd.C_nil _ _); (case side2 => exact Nat.le_refl _); (case side3 => exact mvC_ ((Kd.V_reads' HO_663003.out).2.2)); (case side4 => exact (Kd.V_reads' HO_663003.out).2.1); (case side5 => exact mvC_ ((Kd.V_reads' HO_663004.out).2.2)); (case side6 => exact (Kd.V_reads' HO_663004.out).2.1); rintro e w78 ⟨v681, rfl, ho0, hb⟩; refine ⟨_, rfl, ?_⟩; have HO682 := Aside0.mk (Kd.R_lower (Kd.R_newM (M := fun k_ => (w.heap.size ≤ k_)) ho0 (below_size (bq1_ HB.out GE662.out)) (fun k_ h_ => h_)) (below_size (bq1_ HB.out GE662.out))); replace HO_4 := mbR_ HO_4.out hb; replace HO_663002 := mbV_ HO_663002.out hb; replace HO_663003 := mbV_ HO_663003.out hb; replace HO_663004 := mbV_ HO_663004.out hb; replace HO679 := mbR_ HO679.out hb; replace BK662 := mvB_ BK662.out hb; replace HB := Aside0.mk (below_step (bq1_ HB.out GE662.out) hb); (try clear hb); (try clear ho0); obtain ⟨Ao79, co79, eo79⟩ := Kd.R_slice HO679.out; subst eo79; obtain ⟨Ao80, co80, eo80⟩ := Kd.R_slice HO682.out; subst eo80))
               replace HO_4 := Aside0.mk (Kd.R_drew HO_4.out)
               replace HO_663002 := Aside0.mk (Kd.V_drew HO_663002.out)
               replace HO_663003 := Aside0.mk (Kd.V_drew HO_663003.out)
               replace HO_663004 := Aside0.mk (Kd.V_drew HO_663004.out)
               replace HO679 := Aside0.mk (Kd.R_drew HO679.out)
               replace HO682 := Aside0.mk (Kd.R_drew HO682.out)
               replace BK662 := Aside0.mk (blk_drew BK662.out)
               replace HB := Aside0.mk (below_drew1 HB.out)
               refine start_ (n := 21) (S := fun w' => True) (ds := []) L6_0 (by kernel_rfl) rfl rfl trivial (fun hHeld => ?_); refine with_tabW fullerlaw23_ScriptSizes.tab18 fullerlaw23_ScriptSizes.bits18 (fun HT_ HW_ => ?_)
               generalize w78.drew = w81 at HO_4 HO_663002 HO_663003 HO_663004 HO679 HO682 BK662 HB hHeld ⊢
               refine pu_ 0 (some 88) L6_1 HT_ ?_
               refine pu_ 1 (some 89) L6_2 HT_ ?_
               refine skips_ (fuel := 15) (m := 19) HT_.out (fun _ _ _ _ _ h => h) [(2, 90), (3, 91), (4, 92), (5, 93)] L6_6 rfl (by kernel_rfl) (by kernel_rfl) (a' := ?_) ?_ ?_
               rotate_left
               ·simp only [putU, Act.put, sA_, sB_, sC_]
                rfl
               refine pu_ 6 (some 94) L6_7 HT_ ?_
               refine pu_ 7 (some 95) L6_8 HT_ ?_
               refine skips_ (fuel := 6) (m := 13) HT_.out (fun _ _ _ _ _ h => h) [(8, 96), (9, 97), (10, 98), (11, 99), (12, 100), (13, 101), (14, 102)] L6_15 rfl (by kernel_rfl) (by kernel_rfl) (a' := ?_) ?_ ?_
               rotate_left
               ·simp only [putU, Act.put, sA_, sB_, sC_]
                rfl
               refine pu_ 15 (some 103) L6_16 HT_ ?_
               refine pu_ 16 (some 104) L6_17 HT_ ?_
               refine skips_ (fuel := 2) (m := 4) HT_.out (fun _ _ _ _ _ h => h) [(17, 105), (18, 106)] L6_19 rfl (by kernel_rfl) (by kernel_rfl) (a' := ?_) ?_ ?_
               rotate_left
               ·simp only [putU, Act.put, sA_, sB_, sC_]
                rfl
               refine pu_ 19 (some 107) L6_20 HT_ ?_
               refine pu_ 20 (some 2) L6_21 HT_ ?_
               refine done_ (done_of HT_.out (by kernel_rfl)) ?_
               try go_wp2
               go_ret
               exact ⟨by first | rfl | (simp <;> rfl) | (simp [*] <;> rfl), bq1_ HB.out GE662.out⟩
             ·rw [if_neg c44] at H
              have c44b0 : (t683 == 0) = false := beq_eq_false_iff_ne.mpr c44
              have c44b1 : (t683 != 0) = true := bne_iff_ne.mpr c44
              by_cases c82 : (t680.length : Int) = 0
              ·rw [if_pos c82] at H
               obtain ⟨c82b0, c82b1⟩ := eqT_ c82
               clear c82
               by_cases c83 : t663 = true
               ·subst c83
                have H1 : (if (t671.length : Int) = (wrap64 ((wrap64 (5 + (t676.length : Int))) + (t680.length : Int))) then (if 0 < (t671.length : Int) then (if (wrap64 (rd t671 0)) = a0_0 then ((script_Check.f kj36 a0_0 a0_1 l0_2 l0_3 l0_4 a0_5 a0_6 a0_7 a0_8 a0_9 a0_10).bind fun t687 => (some t687)) else (some false)) else (none)) else (some false)) = some r := by rw [if_pos rfl] at H; exact H
                clear H
                have H := H1
                clear H1
                by_cases c84 : (t671.length : Int) = (wrap64 ((wrap64 (5 + (t676.length : Int))) + (t680.length : Int)))
                ·rw [if_pos c84] at H
                 obtain ⟨c84b0, c84b1⟩ := eqT_ c84
                 clear c84
                 by_cases c85 : 0 < (t671.length : Int)
                 ·rw [if_pos c85] at H
                  have c85b0 : decide (0 < (t671.length : Int)) = true := decide_eq_true c85
                  have c85b1 : decide (0 < t671.length) = true := decide_eq_true (by omega)
                  clear c85
                  by_cases c86 : (wrap64 (rd t671 0)) = a0_0
                  ·rw [if_pos c86] at H
                   obtain ⟨c86b0, c86b1⟩ := eqT_ c86
                   clear c86
                   replace H := Option.bind_eq_some_iff.mp H
                   obtain ⟨t687, A870, H⟩ := H
                   replace H : (some t687) = some r := H
                   have A87 := Aside0.mk A870
                   clear A870
                   obtain rfl := Option.some.inj H
                   have hcz88_0 := cz0_ BK662.out
                   have hcz88_1 := cz1_ BK662.out
                   have hcz88_2 := cz2_ BK662.out
                   have hcz88_3 := hc_ BK662 3
                   have hcz88_4 := hc_ BK662 4
                   have hcz88_5 := hc_ BK662 5
                   have hcz88_6 := hc_ BK662 6
                   have hcz88_7 := hc_ BK662 7
                   have hcz88_8 := hc_ BK662 8
                   have hcz88_9 := hc_ BK662 9
                   have hcz88_10 := hc_ BK662 10
                   have hfz88_0 := blk_frozen BK662.out 0
                   have hfz88_1 := blk_frozen BK662.out 1
                   have hfz88_2 := blk_frozen BK662.out 2
                   have hfz88_3 := blk_frozen BK662.out 3
                   have hfz88_4 := blk_frozen BK662.out 4
                   have hfz88_5 := blk_frozen BK662.out 5
                   have hfz88_6 := blk_frozen BK662.out 6
                   have hfz88_7 := blk_frozen BK662.out 7
                   have hfz88_8 := blk_frozen BK662.out 8
                   have hfz88_9 := blk_frozen BK662.out 9
                   have hfz88_10 := blk_frozen BK662.out 10
                   try go_wp2_with (first | ((with_reducible refine gate_callee (f := 17) rfl ?_); refine gL_ (some 62) Try.func17 #[.slice A0_2 l0_2.length c0_2] ?_; (with_reducible refine (wire_Write.calls kj36 _ _ l0_2 t676 t677 _ ?side1 ?side2 A41.out).mono ?_); (case side1 => exact mvC_ ((Kd.V_reads' HO_663002.out).2.2)); (case side2 => exact (Kd.V_reads' HO_663002.out).2.1); rintro e w89 ⟨v678, rfl, ho0, hb⟩; refine ⟨_, rfl, ?_⟩; have HO679 := Aside0.mk (Kd.R_lower (Kd.R_newM (M := fun k_ => (w.heap.size ≤ k_)) ho0 (below_size (bq1_ HB.out GE662.out)) (fun k_ h_ => h_)) (below_size (bq1_ HB.out GE662.out))); replace HO_4 := mbR_ HO_4.out hb; replace HO_663002 := mbV_ HO_663002.out hb; replace HO_663003 := mbV_ HO_663003.out hb; replace HO_663004 := mbV_ HO_663004.out hb; replace BK662 := mvB_ BK662.out hb; replace HB := Aside0.mk (below_step (bq1_ HB.out GE662.out) hb); (try clear hb); (try clear ho0); have hcz90_0 := cz0_ BK662.out; have hcz90_1 := cz1_ BK662.out; have hcz90_2 := cz2_ BK662.out; have hcz90_3 := hc_ BK662 3; have hcz90_4 := hc_ BK662 4; have hcz90_5 := hc_ BK662 5; have hcz90_6 := hc_ BK662 6; have hcz90_7 := hc_ BK662 7; have hcz90_8 := hc_ BK662 8; have hcz90_9 := hc_ BK662 9; have hcz90_10 := hc_ BK662 10; have hfz90_0 := blk_frozen BK662.out 0; have hfz90_1 := blk_frozen BK662.out 1; have hfz90_2 := blk_frozen BK662.out 2; have hfz90_3 := blk_frozen BK662.out 3; have hfz90_4 := blk_frozen BK662.out 4; have hfz90_5 := blk_frozen BK662.out 5; have hfz90_6 := blk_frozen BK662.out 6; have hfz90_7 := blk_frozen BK662.out 7; have hfz90_8 := blk_frozen BK662.out 8; have hfz90_9 := blk_frozen BK662.out 9; have hfz90_10 := blk_frozen BK662.out 10) | ((with_reducible refine gate_callee (f := 18) rfl ?_); refine gL_ (some 68) Try.func18 #[.slice none 0 0, .agg #[.slice A0_3 l0_3.length c0_3, .slice A0_4 l0_4.length c0_4]] ?_; (refine (image_Put.calls kj36 _ _ ([] : List Int) _ _ l0_3 _ _ l0_4 t680 t683 _ ?side1 ?side2 ?side3 ?side4 ?side5 ?side6 A42.out).mono ?_); (case side1 => exact Kd.C_nil _ _); (case side2 => exact Nat.le_refl _); (case side3 => exact mvC_ ((Kd.V_reads' HO_663003.out).2.2)); (case side4 => exact (Kd.V_reads' HO_663003.out).2.1); (case side5 => exact mvC_ ((Kd.V_reads' HO_663004.out).2.2)); (case side6 => exact (Kd.V_reads' HO_663004.out).2.1); rintro e w91 ⟨v681, rfl, ho0, hb⟩; refine ⟨_, rfl, ?_⟩; have HO682 := Aside0.mk (Kd.R_lower (Kd.R_newM (M := fun k_ => (w.heap.size ≤ k_)) ho0 (below_size (bq1_ HB.out GE662.out)) (fun k_ h_ => h_)) (below_size (bq1_ HB.out GE662.out))); replace HO_4 := mbR_ HO_4.out hb; replace HO_663002 := mbV_ HO_663002.out hb; replace HO_663003 := mbV_ HO_663003.out hb; replace HO_663004 := mbV_ HO_663004.out hb; replace HO679 := mbR_ HO679.out hb; replace BK662 := mvB_ BK662.out hb; replace HB := Aside0.mk (below_step (bq1_ HB.out GE662.out) hb); (try clear hb); (try clear ho0); obtain ⟨Ao92, co92, eo92⟩ := Kd.R_slice HO682.out; subst eo92; obtain ⟨Ao93, co93, eo93⟩ := Kd.R_slice HO679.out; subst eo93))
                   replace HO_4 := Aside0.mk (Kd.R_drew HO_4.out)
                   replace HO_663002 := Aside0.mk (Kd.V_drew HO_663002.out)
                   replace HO_663003 := Aside0.mk (Kd.V_drew HO_663003.out)
                   replace HO_663004 := Aside0.mk (Kd.V_drew HO_663004.out)
                   replace HO679 := Aside0.mk (Kd.R_drew HO679.out)
                   replace HO682 := Aside0.mk (Kd.R_drew HO682.out)
                   replace BK662 := Aside0.mk (blk_drew BK662.out)
                   replace HB := Aside0.mk (below_drew1 HB.out)
                   obtain ⟨Ao95, co95, eo95⟩ := Kd.R_slice HO_4.out
                   (first | subst eo95 | (injection eo95 with f1_ f2_ f3_; have f4_ := f1_.symm; have f5_ := f3_.symm; clear f1_ f2_ f3_; subst f4_; subst f5_))
                   have p686 : 0 ≤ (0 : Int) := (by omega)
                   have q686 : 0 < (t671.length : Int) := od_
                   obtain ⟨ad686, e686, hx686_0⟩ := Kd.at_int (Kd.R_reads' HO_4.out).2.2 0 p686 q686
                   cases e686
                   have qi686 : (0 < t671.length) = True := eq_true (by omega)
                   (try rw [show ((0 : Int)).toNat = 0 from rfl] at hx686_0)
                   (try rw [Addr.add_zero'] at hx686_0)
                   replace p686 := eq_true p686
                   replace q686 := eq_true q686
                   refine start_ (n := 21) (S := fun w' => w'.cell? ⟨gb662, 0, none⟩ = some (.int .i64 a0_0) ∧ w'.cell? ⟨gb662, 1, none⟩ = some (.int .i64 a0_1) ∧ w'.cell? ⟨gb662, 2, none⟩ = some (.slice A0_2 l0_2.length c0_2) ∧ w'.cell? ⟨gb662, 3, none⟩ = some (.slice A0_3 l0_3.length c0_3) ∧ w'.cell? ⟨gb662, 4, none⟩ = some (.slice A0_4 l0_4.length c0_4) ∧ w'.cell? ⟨gb662, 5, none⟩ = some (.int .i64 a0_5) ∧ w'.cell? ⟨gb662, 6, none⟩ = some (.int .i64 a0_6) ∧ w'.cell? ⟨gb662, 7, none⟩ = some (.int .i64 a0_7) ∧ w'.cell? ⟨gb662, 8, none⟩ = some (.int .i64 a0_8) ∧ w'.cell? ⟨gb662, 9, none⟩ = some (.int .i64 a0_9) ∧ w'.cell? ⟨gb662, 10, none⟩ = some (.int .i64 a0_10) ∧ w'.cell? ad686 = some (.int .u8 (rd t671 0))) (ds := []) L6_0 (by kernel_rfl) rfl rfl ⟨(blk_cell BK662.out 0).trans rfl, (blk_cell BK662.out 1).trans rfl, (blk_cell BK662.out 2).trans rfl, (blk_cell BK662.out 3).trans rfl, (blk_cell BK662.out 4).trans rfl, (blk_cell BK662.out 5).trans rfl, (blk_cell BK662.out 6).trans rfl, (blk_cell BK662.out 7).trans rfl, (blk_cell BK662.out 8).trans rfl, (blk_cell BK662.out 9).trans rfl, (blk_cell BK662.out 10).trans rfl, hx686_0⟩ (fun hHeld => ?_); refine with_tabW fullerlaw23_ScriptSizes.tab18 fullerlaw23_ScriptSizes.bits18 (fun HT_ HW_ => ?_)
                   generalize w91.drew = w94 at HO_4 HO_663002 HO_663003 HO_663004 HO679 HO682 BK662 HB hx686_0 hHeld ⊢
                   refine pu_ 0 (some 88) L6_1 HT_ ?_
                   refine pu_ 1 (some 89) L6_2 HT_ ?_
                   refine pu_ 2 (some 90) L6_3 HT_ ?_
                   refine pu_ 3 (some 91) L6_4 HT_ ?_
                   refine pu_ 4 (some 92) L6_5 HT_ ?_
                   refine pu_ 5 (some 93) L6_6 HT_ ?_
                   refine pu_ 6 (some 94) L6_7 HT_ ?_
                   refine pu_ 7 (some 95) L6_8 HT_ ?_
                   refine pu_ 8 (some 96) L6_9 HT_ ?_
                   refine pu_ 9 (some 97) L6_10 HT_ ?_
                   refine pu_ 12 (some 100) L6_11 HT_ ?_
                   refine ta_ 10 (some 98) L6_12 HT_ HW_ hHeld ?_ (hy := by rintro w' ⟨s0, s1, s2, s3, s4, s5, s6, s7, s8, s9, s10, s11⟩; go_simp; with_reducible rfl)
                   refine pu_ 11 (some 99) L6_13 HT_ ?_
                   refine ta_ 13 (some 101) L6_14 HT_ HW_ hHeld ?_ (hy := by rintro w' ⟨s0, s1, s2, s3, s4, s5, s6, s7, s8, s9, s10, s11⟩; go_simp; with_reducible rfl)
                   refine pu_ 14 (some 102) L6_15 HT_ ?_
                   refine pu_ 15 (some 103) L6_16 HT_ ?_
                   refine pu_ 16 (some 104) L6_17 HT_ ?_
                   refine ta_ 17 (some 105) L6_18 HT_ HW_ hHeld ?_ (hy := by rintro w' ⟨s0, s1, s2, s3, s4, s5, s6, s7, s8, s9, s10, s11⟩; go_simp; with_reducible rfl)
                   refine one_ (i := 18) (N := some 106) L6_19 rfl rfl (one_of HT_.out (by kernel_rfl)) (by decide) (fun K hK => ?_)
                   refine goes_ Try.func15 (by kernel_rfl) rfl #[.agg #[.int .i64 a0_0, .int .i64 a0_1, .slice A0_2 l0_2.length c0_2, .slice A0_3 l0_3.length c0_3, .slice A0_4 l0_4.length c0_4, .int .i64 a0_5, .int .i64 a0_6, .int .i64 a0_7, .int .i64 a0_8, .int .i64 a0_9, .int .i64 a0_10]] (by rfl) rfl rfl (by (try simp only [List.map_toArray, List.map_cons, List.map_nil]); first | done | rfl | (simp only [List.length_drop, List.length_take]; rfl)) ?_
                   with_reducible refine (script_Check.calls kj36 a0_0 a0_1 _ _ l0_2 _ _ l0_3 _ _ l0_4 a0_5 a0_6 a0_7 a0_8 a0_9 a0_10 t687 _ ?side1 ?side2 ?side3 ?side4 ?side5 ?side6 A87.out).mono ?_
                   (case side1 => exact mvC_ ((Kd.V_reads' HO_663002.out).2.2))
                   (case side2 => exact (Kd.V_reads' HO_663002.out).2.1)
                   (case side3 => exact mvC_ ((Kd.V_reads' HO_663003.out).2.2))
                   (case side4 => exact (Kd.V_reads' HO_663003.out).2.1)
                   (case side5 => exact mvC_ ((Kd.V_reads' HO_663004.out).2.2))
                   (case side6 => exact (Kd.V_reads' HO_663004.out).2.1)
                   rintro e w96 ⟨rfl, hb⟩
                   have HS11_ := (hb.cell (World.block_lt_of_cell? _ _ (hHeld.2.2.2.2.2.2.2.2.2.2.2))).trans (hHeld.2.2.2.2.2.2.2.2.2.2.2)
                   refine ⟨_, rfl, ?_⟩
                   replace HO_4 := mbR_ HO_4.out hb
                   replace HO_663002 := mbV_ HO_663002.out hb
                   replace HO_663003 := mbV_ HO_663003.out hb
                   replace HO_663004 := mbV_ HO_663004.out hb
                   replace HO679 := mbR_ HO679.out hb
                   replace HO682 := mbR_ HO682.out hb
                   replace BK662 := mvB_ BK662.out hb
                   replace HB := Aside0.mk (below_step (bq1_ HB.out GE662.out) hb)
                   (try clear hb)
                   (try clear hb2)
                   (try clear hk)
                   (try clear hi)
                   refine hK.out _ _ ⟨(blk_cell BK662.out 0).trans rfl, (blk_cell BK662.out 1).trans rfl, (blk_cell BK662.out 2).trans rfl, (blk_cell BK662.out 3).trans rfl, (blk_cell BK662.out 4).trans rfl, (blk_cell BK662.out 5).trans rfl, (blk_cell BK662.out 6).trans rfl, (blk_cell BK662.out 7).trans rfl, (blk_cell BK662.out 8).trans rfl, (blk_cell BK662.out 9).trans rfl, (blk_cell BK662.out 10).trans rfl, HS11_⟩ (fun hHeld => ?_)
                   clear hK K
                   refine norm_ (a' := ?_) ?_ ?_
                   rotate_left
                   ·show Act.put _ (some 106) _ = _
                    simp only [Act.put, sA_, sB_, sC_, i64_w, i32_w]
                    rfl
                   refine pu_ 19 (some 107) L6_20 HT_ ?_
                   refine pu_ 20 (some 2) L6_21 HT_ ?_
                   refine done_ (done_of HT_.out (by kernel_rfl)) ?_
                   try go_wp2
                   go_ret
                   exact ⟨by first | rfl | (simp <;> rfl) | (simp [*] <;> rfl), bq1_ HB.out GE662.out⟩
                  ·rw [if_neg c86] at H
                   have c86b0 : ((wrap64 (rd t671 0)) == a0_0) = false := beq_eq_false_iff_ne.mpr c86
                   have c86b1 : ((wrap64 (rd t671 0)) != a0_0) = true := bne_iff_ne.mpr c86
                   obtain rfl := Option.some.inj H
                   have hcz97_0 := cz0_ BK662.out
                   have hcz97_1 := cz1_ BK662.out
                   have hcz97_2 := cz2_ BK662.out
                   have hcz97_3 := hc_ BK662 3
                   have hcz97_4 := hc_ BK662 4
                   have hcz97_5 := hc_ BK662 5
                   have hcz97_6 := hc_ BK662 6
                   have hcz97_7 := hc_ BK662 7
                   have hcz97_8 := hc_ BK662 8
                   have hcz97_9 := hc_ BK662 9
                   have hcz97_10 := hc_ BK662 10
                   have hfz97_0 := blk_frozen BK662.out 0
                   have hfz97_1 := blk_frozen BK662.out 1
                   have hfz97_2 := blk_frozen BK662.out 2
                   have hfz97_3 := blk_frozen BK662.out 3
                   have hfz97_4 := blk_frozen BK662.out 4
                   have hfz97_5 := blk_frozen BK662.out 5
                   have hfz97_6 := blk_frozen BK662.out 6
                   have hfz97_7 := blk_frozen BK662.out 7
                   have hfz97_8 := blk_frozen BK662.out 8
                   have hfz97_9 := blk_frozen BK662.out 9
                   have hfz97_10 := blk_frozen BK662.out 10
                   try go_wp2_with (first | ((with_reducible refine gate_callee (f := 17) rfl ?_); refine gL_ (some 62) Try.func17 #[.slice A0_2 l0_2.length c0_2] ?_; (with_reducible refine (wire_Write.calls kj36 _ _ l0_2 t676 t677 _ ?side1 ?side2 A41.out).mono ?_); (case side1 => exact mvC_ ((Kd.V_reads' HO_663002.out).2.2)); (case side2 => exact (Kd.V_reads' HO_663002.out).2.1); rintro e w98 ⟨v678, rfl, ho0, hb⟩; refine ⟨_, rfl, ?_⟩; have HO679 := Aside0.mk (Kd.R_lower (Kd.R_newM (M := fun k_ => (w.heap.size ≤ k_)) ho0 (below_size (bq1_ HB.out GE662.out)) (fun k_ h_ => h_)) (below_size (bq1_ HB.out GE662.out))); replace HO_4 := mbR_ HO_4.out hb; replace HO_663002 := mbV_ HO_663002.out hb; replace HO_663003 := mbV_ HO_663003.out hb; replace HO_663004 := mbV_ HO_663004.out hb; replace BK662 := mvB_ BK662.out hb; replace HB := Aside0.mk (below_step (bq1_ HB.out GE662.out) hb); (try clear hb); (try clear ho0); have hcz99_0 := cz0_ BK662.out; have hcz99_1 := cz1_ BK662.out; have hcz99_2 := cz2_ BK662.out; have hcz99_3 := hc_ BK662 3; have hcz99_4 := hc_ BK662 4; have hcz99_5 := hc_ BK662 5; have hcz99_6 := hc_ BK662 6; have hcz99_7 := hc_ BK662 7; have hcz99_8 := hc_ BK662 8; have hcz99_9 := hc_ BK662 9; have hcz99_10 := hc_ BK662 10; have hfz99_0 := blk_frozen BK662.out 0; have hfz99_1 := blk_frozen BK662.out 1; have hfz99_2 := blk_frozen BK662.out 2; have hfz99_3 := blk_frozen BK662.out 3; have hfz99_4 := blk_frozen BK662.out 4; have hfz99_5 := blk_frozen BK662.out 5; have hfz99_6 := blk_frozen BK662.out 6; have hfz99_7 := blk_frozen BK662.out 7; have hfz99_8 := blk_frozen BK662.out 8; have hfz99_9 := blk_frozen BK662.out 9; have hfz99_10 := blk_frozen BK662.out 10) | ((with_reducible refine gate_callee (f := 18) rfl ?_); refine gL_ (some 68) Try.func18 #[.slice none 0 0, .agg #[.slice A0_3 l0_3.length c0_3, .slice A0_4 l0_4.length c0_4]] ?_; (refine (image_Put.calls kj36 _ _ ([] : List Int) _ _ l0_3 _ _ l0_4 t680 t683 _ ?side1 ?side2 ?side3 ?side4 ?side5 ?side6 A42.out).mono ?_); (case side1 => exact Kd.C_nil _ _); (case side2 => exact Nat.le_refl _); (case side3 => exact mvC_ ((Kd.V_reads' HO_663003.out).2.2)); (case side4 => exact (Kd.V_reads' HO_663003.out).2.1); (case side5 => exact mvC_ ((Kd.V_reads' HO_663004.out).2.2)); (case side6 => exact (Kd.V_reads' HO_663004.out).2.1); rintro e w100 ⟨v681, rfl, ho0, hb⟩; refine ⟨_, rfl, ?_⟩; have HO682 := Aside0.mk (Kd.R_lower (Kd.R_newM (M := fun k_ => (w.heap.size ≤ k_)) ho0 (below_size (bq1_ HB.out GE662.out)) (fun k_ h_ => h_)) (below_size (bq1_ HB.out GE662.out))); replace HO_4 := mbR_ HO_4.out hb; replace HO_663002 := mbV_ HO_663002.out hb; replace HO_663003 := mbV_ HO_663003.out hb; replace HO_663004 := mbV_ HO_663004.out hb; replace HO679 := mbR_ HO679.out hb; replace BK662 := mvB_ BK662.out hb; replace HB := Aside0.mk (below_step (bq1_ HB.out GE662.out) hb); (try clear hb); (try clear ho0); obtain ⟨Ao101, co101, eo101⟩ := Kd.R_slice HO682.out; subst eo101; obtain ⟨Ao102, co102, eo102⟩ := Kd.R_slice HO679.out; subst eo102))
                   replace HO_4 := Aside0.mk (Kd.R_drew HO_4.out)
                   replace HO_663002 := Aside0.mk (Kd.V_drew HO_663002.out)
                   replace HO_663003 := Aside0.mk (Kd.V_drew HO_663003.out)
                   replace HO_663004 := Aside0.mk (Kd.V_drew HO_663004.out)
                   replace HO679 := Aside0.mk (Kd.R_drew HO679.out)
                   replace HO682 := Aside0.mk (Kd.R_drew HO682.out)
                   replace BK662 := Aside0.mk (blk_drew BK662.out)
                   replace HB := Aside0.mk (below_drew1 HB.out)
                   obtain ⟨Ao104, co104, eo104⟩ := Kd.R_slice HO_4.out
                   (first | subst eo104 | (injection eo104 with f1_ f2_ f3_; have f4_ := f1_.symm; have f5_ := f3_.symm; clear f1_ f2_ f3_; subst f4_; subst f5_))
                   have p686 : 0 ≤ (0 : Int) := (by omega)
                   have q686 : 0 < (t671.length : Int) := od_
                   obtain ⟨ad686, e686, hx686_0⟩ := Kd.at_int (Kd.R_reads' HO_4.out).2.2 0 p686 q686
                   cases e686
                   have qi686 : (0 < t671.length) = True := eq_true (by omega)
                   (try rw [show ((0 : Int)).toNat = 0 from rfl] at hx686_0)
                   (try rw [Addr.add_zero'] at hx686_0)
                   replace p686 := eq_true p686
                   replace q686 := eq_true q686
                   refine start_ (n := 21) (S := fun w' => w'.cell? ⟨gb662, 0, none⟩ = some (.int .i64 a0_0) ∧ w'.cell? ⟨gb662, 1, none⟩ = some (.int .i64 a0_1) ∧ w'.cell? ⟨gb662, 2, none⟩ = some (.slice A0_2 l0_2.length c0_2) ∧ w'.cell? ⟨gb662, 3, none⟩ = some (.slice A0_3 l0_3.length c0_3) ∧ w'.cell? ⟨gb662, 4, none⟩ = some (.slice A0_4 l0_4.length c0_4) ∧ w'.cell? ⟨gb662, 5, none⟩ = some (.int .i64 a0_5) ∧ w'.cell? ⟨gb662, 6, none⟩ = some (.int .i64 a0_6) ∧ w'.cell? ⟨gb662, 7, none⟩ = some (.int .i64 a0_7) ∧ w'.cell? ⟨gb662, 8, none⟩ = some (.int .i64 a0_8) ∧ w'.cell? ⟨gb662, 9, none⟩ = some (.int .i64 a0_9) ∧ w'.cell? ⟨gb662, 10, none⟩ = some (.int .i64 a0_10) ∧ w'.cell? ad686 = some (.int .u8 (rd t671 0))) (ds := []) L6_0 (by kernel_rfl) rfl rfl ⟨(blk_cell BK662.out 0).trans rfl, (blk_cell BK662.out 1).trans rfl, (blk_cell BK662.out 2).trans rfl, (blk_cell BK662.out 3).trans rfl, (blk_cell BK662.out 4).trans rfl, (blk_cell BK662.out 5).trans rfl, (blk_cell BK662.out 6).trans rfl, (blk_cell BK662.out 7).trans rfl, (blk_cell BK662.out 8).trans rfl, (blk_cell BK662.out 9).trans rfl, (blk_cell BK662.out 10).trans rfl, hx686_0⟩ (fun hHeld => ?_); refine with_tabW fullerlaw23_ScriptSizes.tab18 fullerlaw23_ScriptSizes.bits18 (fun HT_ HW_ => ?_)
                   generalize w100.drew = w103 at HO_4 HO_663002 HO_663003 HO_663004 HO679 HO682 BK662 HB hx686_0 hHeld ⊢
                   refine pu_ 0 (some 88) L6_1 HT_ ?_
                   refine pu_ 1 (some 89) L6_2 HT_ ?_
                   refine pu_ 2 (some 90) L6_3 HT_ ?_
                   refine pu_ 3 (some 91) L6_4 HT_ ?_
                   refine pu_ 4 (some 92) L6_5 HT_ ?_
                   refine pu_ 5 (some 93) L6_6 HT_ ?_
                   refine pu_ 6 (some 94) L6_7 HT_ ?_
                   refine pu_ 7 (some 95) L6_8 HT_ ?_
                   refine pu_ 8 (some 96) L6_9 HT_ ?_
                   refine pu_ 9 (some 97) L6_10 HT_ ?_
                   refine pu_ 12 (some 100) L6_11 HT_ ?_
                   refine ta_ 10 (some 98) L6_12 HT_ HW_ hHeld ?_ (hy := by rintro w' ⟨s0, s1, s2, s3, s4, s5, s6, s7, s8, s9, s10, s11⟩; go_simp; with_reducible rfl)
                   refine pu_ 11 (some 99) L6_13 HT_ ?_
                   refine ta_ 13 (some 101) L6_14 HT_ HW_ hHeld ?_ (hy := by rintro w' ⟨s0, s1, s2, s3, s4, s5, s6, s7, s8, s9, s10, s11⟩; go_simp; with_reducible rfl)
                   refine pu_ 14 (some 102) L6_15 HT_ ?_
                   refine pu_ 15 (some 103) L6_16 HT_ ?_
                   refine pu_ 16 (some 104) L6_17 HT_ ?_
                   refine skips_ (fuel := 2) (m := 4) HT_.out (fun _ _ _ _ _ h => h) [(17, 105), (18, 106)] L6_19 rfl (by kernel_rfl) (by kernel_rfl) (a' := ?_) ?_ ?_
                   rotate_left
                   ·simp only [putU, Act.put, sA_, sB_, sC_]
                    rfl
                   refine pu_ 19 (some 107) L6_20 HT_ ?_
                   refine pu_ 20 (some 2) L6_21 HT_ ?_
                   refine done_ (done_of HT_.out (by kernel_rfl)) ?_
                   try go_wp2
                   go_ret
                   exact ⟨by first | rfl | (simp <;> rfl) | (simp [*] <;> rfl), bq1_ HB.out GE662.out⟩
                 ·rw [if_neg c85] at H
                  exact absurd H (by simp)
                ·rw [if_neg c84] at H
                 have c84b0 : ((t671.length : Int) == (wrap64 ((wrap64 (5 + (t676.length : Int))) + (t680.length : Int)))) = false := beq_eq_false_iff_ne.mpr c84
                 have c84b1 : ((t671.length : Int) != (wrap64 ((wrap64 (5 + (t676.length : Int))) + (t680.length : Int)))) = true := bne_iff_ne.mpr c84
                 obtain rfl := Option.some.inj H
                 have hcz105_0 := cz0_ BK662.out
                 have hcz105_1 := cz1_ BK662.out
                 have hcz105_2 := cz2_ BK662.out
                 have hcz105_3 := hc_ BK662 3
                 have hcz105_4 := hc_ BK662 4
                 have hcz105_5 := hc_ BK662 5
                 have hcz105_6 := hc_ BK662 6
                 have hcz105_7 := hc_ BK662 7
                 have hcz105_8 := hc_ BK662 8
                 have hcz105_9 := hc_ BK662 9
                 have hcz105_10 := hc_ BK662 10
                 have hfz105_0 := blk_frozen BK662.out 0
                 have hfz105_1 := blk_frozen BK662.out 1
                 have hfz105_2 := blk_frozen BK662.out 2
                 have hfz105_3 := blk_frozen BK662.out 3
                 have hfz105_4 := blk_frozen BK662.out 4
                 have hfz105_5 := blk_frozen BK662.out 5
                 have hfz105_6 := blk_frozen BK662.out 6
                 have hfz105_7 := blk_frozen BK662.out 7
                 have hfz105_8 := blk_frozen BK662.out 8
                 have hfz105_9 := blk_frozen BK662.out 9
                 have hfz105_10 := blk_frozen BK662.out 10
                 try go_wp2_with (first | ((with_reducible refine gate_callee (f := 17) rfl ?_); refine gL_ (some 62) Try.func17 #[.slice A0_2 l0_2.length c0_2] ?_; (with_reducible refine (wire_Write.calls kj36 _ _ l0_2 t676 t677 _ ?side1 ?side2 A41.out).mono ?_); (case side1 => exact mvC_ ((Kd.V_reads' HO_663002.out).2.2)); (case side2 => exact (Kd.V_reads' HO_663002.out).2.1); rintro e w106 ⟨v678, rfl, ho0, hb⟩; refine ⟨_, rfl, ?_⟩; have HO679 := Aside0.mk (Kd.R_lower (Kd.R_newM (M := fun k_ => (w.heap.size ≤ k_)) ho0 (below_size (bq1_ HB.out GE662.out)) (fun k_ h_ => h_)) (below_size (bq1_ HB.out GE662.out))); replace HO_4 := mbR_ HO_4.out hb; replace HO_663002 := mbV_ HO_663002.out hb; replace HO_663003 := mbV_ HO_663003.out hb; replace HO_663004 := mbV_ HO_663004.out hb; replace BK662 := mvB_ BK662.out hb; replace HB := Aside0.mk (below_step (bq1_ HB.out GE662.out) hb); (try clear hb); (try clear ho0); have hcz107_0 := cz0_ BK662.out; have hcz107_1 := cz1_ BK662.out; have hcz107_2 := cz2_ BK662.out; have hcz107_3 := hc_ BK662 3; have hcz107_4 := hc_ BK662 4; have hcz107_5 := hc_ BK662 5; have hcz107_6 := hc_ BK662 6; have hcz107_7 := hc_ BK662 7; have hcz107_8 := hc_ BK662 8; have hcz107_9 := hc_ BK662 9; have hcz107_10 := hc_ BK662 10; have hfz107_0 := blk_frozen BK662.out 0; have hfz107_1 := blk_frozen BK662.out 1; have hfz107_2 := blk_frozen BK662.out 2; have hfz107_3 := blk_frozen BK662.out 3; have hfz107_4 := blk_frozen BK662.out 4; have hfz107_5 := blk_frozen BK662.out 5; have hfz107_6 := blk_frozen BK662.out 6; have hfz107_7 := blk_frozen BK662.out 7; have hfz107_8 := blk_frozen BK662.out 8; have hfz107_9 := blk_frozen BK662.out 9; have hfz107_10 := blk_frozen BK662.out 10) | ((with_reducible refine gate_callee (f := 18) rfl ?_); refine gL_ (some 68) Try.func18 #[.slice none 0 0, .agg #[.slice A0_3 l0_3.length c0_3, .slice A0_4 l0_4.length c0_4]] ?_; (refine (image_Put.calls kj36 _ _ ([] : List Int) _ _ l0_3 _ _ l0_4 t680 t683 _ ?side1 ?side2 ?side3 ?side4 ?side5 ?side6 A42.out).mono ?_); (case side1 => exact Kd.C_nil _ _); (case side2 => exact Nat.le_refl _); (case side3 => exact mvC_ ((Kd.V_reads' HO_663003.out).2.2)); (case side4 => exact (Kd.V_reads' HO_663003.out).2.1); (case side5 => exact mvC_ ((Kd.V_reads' HO_663004.out).2.2)); (case side6 => exact (Kd.V_reads' HO_663004.out).2.1); rintro e w108 ⟨v681, rfl, ho0, hb⟩; refine ⟨_, rfl, ?_⟩; have HO682 := Aside0.mk (Kd.R_lower (Kd.R_newM (M := fun k_ => (w.heap.size ≤ k_)) ho0 (below_size (bq1_ HB.out GE662.out)) (fun k_ h_ => h_)) (below_size (bq1_ HB.out GE662.out))); replace HO_4 := mbR_ HO_4.out hb; replace HO_663002 := mbV_ HO_663002.out hb; replace HO_663003 := mbV_ HO_663003.out hb; replace HO_663004 := mbV_ HO_663004.out hb; replace HO679 := mbR_ HO679.out hb; replace BK662 := mvB_ BK662.out hb; replace HB := Aside0.mk (below_step (bq1_ HB.out GE662.out) hb); (try clear hb); (try clear ho0); obtain ⟨Ao109, co109, eo109⟩ := Kd.R_slice HO682.out; subst eo109; obtain ⟨Ao110, co110, eo110⟩ := Kd.R_slice HO679.out; subst eo110))
                 replace HO_4 := Aside0.mk (Kd.R_drew HO_4.out)
                 replace HO_663002 := Aside0.mk (Kd.V_drew HO_663002.out)
                 replace HO_663003 := Aside0.mk (Kd.V_drew HO_663003.out)
                 replace HO_663004 := Aside0.mk (Kd.V_drew HO_663004.out)
                 replace HO679 := Aside0.mk (Kd.R_drew HO679.out)
                 replace HO682 := Aside0.mk (Kd.R_drew HO682.out)
                 replace BK662 := Aside0.mk (blk_drew BK662.out)
                 replace HB := Aside0.mk (below_drew1 HB.out)
                 obtain ⟨Ao112, co112, eo112⟩ := Kd.R_slice HO_4.out
                 (first | subst eo112 | (injection eo112 with f1_ f2_ f3_; have f4_ := f1_.symm; have f5_ := f3_.symm; clear f1_ f2_ f3_; subst f4_; subst f5_))
                 refine start_ (n := 21) (S := fun w' => True) (ds := []) L6_0 (by kernel_rfl) rfl rfl trivial (fun hHeld => ?_); refine with_tabW fullerlaw23_ScriptSizes.tab18 fullerlaw23_ScriptSizes.bits18 (fun HT_ HW_ => ?_)
                 generalize w108.drew = w111 at HO_4 HO_663002 HO_663003 HO_663004 HO679 HO682 BK662 HB hHeld ⊢
                 refine pu_ 0 (some 88) L6_1 HT_ ?_
                 refine pu_ 1 (some 89) L6_2 HT_ ?_
                 refine pu_ 2 (some 90) L6_3 HT_ ?_
                 refine pu_ 3 (some 91) L6_4 HT_ ?_
                 refine pu_ 4 (some 92) L6_5 HT_ ?_
                 refine pu_ 5 (some 93) L6_6 HT_ ?_
                 refine pu_ 6 (some 94) L6_7 HT_ ?_
                 refine pu_ 7 (some 95) L6_8 HT_ ?_
                 refine skips_ (fuel := 6) (m := 13) HT_.out (fun _ _ _ _ _ h => h) [(8, 96), (9, 97), (10, 98), (11, 99), (12, 100), (13, 101), (14, 102)] L6_15 rfl (by kernel_rfl) (by kernel_rfl) (a' := ?_) ?_ ?_
                 rotate_left
                 ·simp only [putU, Act.put, sA_, sB_, sC_]
                  rfl
                 refine pu_ 15 (some 103) L6_16 HT_ ?_
                 refine pu_ 16 (some 104) L6_17 HT_ ?_
                 refine skips_ (fuel := 2) (m := 4) HT_.out (fun _ _ _ _ _ h => h) [(17, 105), (18, 106)] L6_19 rfl (by kernel_rfl) (by kernel_rfl) (a' := ?_) ?_ ?_
                 rotate_left
                 ·simp only [putU, Act.put, sA_, sB_, sC_]
                  rfl
                 refine pu_ 19 (some 107) L6_20 HT_ ?_
                 refine pu_ 20 (some 2) L6_21 HT_ ?_
                 refine done_ (done_of HT_.out (by kernel_rfl)) ?_
                 try go_wp2
                 go_ret
                 exact ⟨by first | rfl | (simp <;> rfl) | (simp [*] <;> rfl), bq1_ HB.out GE662.out⟩
               ·replace c83 := Bool.eq_false_iff.mpr c83
                subst c83
                have H1 : (some false) = some r := by rw [if_neg (show ¬ (false = true) by decide)] at H; exact H
                clear H
                have H := H1
                clear H1
                obtain rfl := Option.some.inj H
                have hcz113_0 := cz0_ BK662.out
                have hcz113_1 := cz1_ BK662.out
                have hcz113_2 := cz2_ BK662.out
                have hcz113_3 := hc_ BK662 3
                have hcz113_4 := hc_ BK662 4
                have hcz113_5 := hc_ BK662 5
                have hcz113_6 := hc_ BK662 6
                have hcz113_7 := hc_ BK662 7
                have hcz113_8 := hc_ BK662 8
                have hcz113_9 := hc_ BK662 9
                have hcz113_10 := hc_ BK662 10
                have hfz113_0 := blk_frozen BK662.out 0
                have hfz113_1 := blk_frozen BK662.out 1
                have hfz113_2 := blk_frozen BK662.out 2
                have hfz113_3 := blk_frozen BK662.out 3
                have hfz113_4 := blk_frozen BK662.out 4
                have hfz113_5 := blk_frozen BK662.out 5
                have hfz113_6 := blk_frozen BK662.out 6
                have hfz113_7 := blk_frozen BK662.out 7
                have hfz113_8 := blk_frozen BK662.out 8
                have hfz113_9 := blk_frozen BK662.out 9
                have hfz113_10 := blk_frozen BK662.out 10
                try go_wp2_with (first | ((with_reducible refine gate_callee (f := 17) rfl ?_); refine gL_ (some 62) Try.func17 #[.slice A0_2 l0_2.length c0_2] ?_; (with_reducible refine (wire_Write.calls kj36 _ _ l0_2 t676 t677 _ ?side1 ?side2 A41.out).mono ?_); (case side1 => exact mvC_ ((Kd.V_reads' HO_663002.out).2.2)); (case side2 => exact (Kd.V_reads' HO_663002.out).2.1); rintro e w114 ⟨v678, rfl, ho0, hb⟩; refine ⟨_, rfl, ?_⟩; have HO679 := Aside0.mk (Kd.R_lower (Kd.R_newM (M := fun k_ => (w.heap.size ≤ k_)) ho0 (below_size (bq1_ HB.out GE662.out)) (fun k_ h_ => h_)) (below_size (bq1_ HB.out GE662.out))); replace HO_4 := mbR_ HO_4.out hb; replace HO_663002 := mbV_ HO_663002.out hb; replace HO_663003 := mbV_ HO_663003.out hb; replace HO_663004 := mbV_ HO_663004.out hb; replace BK662 := mvB_ BK662.out hb; replace HB := Aside0.mk (below_step (bq1_ HB.out GE662.out) hb); (try clear hb); (try clear ho0); have hcz115_0 := cz0_ BK662.out; have hcz115_1 := cz1_ BK662.out; have hcz115_2 := cz2_ BK662.out; have hcz115_3 := hc_ BK662 3; have hcz115_4 := hc_ BK662 4; have hcz115_5 := hc_ BK662 5; have hcz115_6 := hc_ BK662 6; have hcz115_7 := hc_ BK662 7; have hcz115_8 := hc_ BK662 8; have hcz115_9 := hc_ BK662 9; have hcz115_10 := hc_ BK662 10; have hfz115_0 := blk_frozen BK662.out 0; have hfz115_1 := blk_frozen BK662.out 1; have hfz115_2 := blk_frozen BK662.out 2; have hfz115_3 := blk_frozen BK662.out 3; have hfz115_4 := blk_frozen BK662.out 4; have hfz115_5 := blk_frozen BK662.out 5; have hfz115_6 := blk_frozen BK662.out 6; have hfz115_7 := blk_frozen BK662.out 7; have hfz115_8 := blk_frozen BK662.out 8; have hfz115_9 := blk_frozen BK662.out 9; have hfz115_10 := blk_frozen BK662.out 10) | ((with_reducible refine gate_callee (f := 18) rfl ?_); refine gL_ (some 68) Try.func18 #[.slice none 0 0, .agg #[.slice A0_3 l0_3.length c0_3, .slice A0_4 l0_4.length c0_4]] ?_; (refine (image_Put.calls kj36 _ _ ([] : List Int) _ _ l0_3 _ _ l0_4 t680 t683 _ ?side1 ?side2 ?side3 ?side4 ?side5 ?side6 A42.out).mono ?_); (case side1 => exact Kd.C_nil _ _); (case side2 => exact Nat.le_refl _); (case side3 => exact mvC_ ((Kd.V_reads' HO_663003.out).2.2)); (case side4 => exact (Kd.V_reads' HO_663003.out).2.1); (case side5 => exact mvC_ ((Kd.V_reads' HO_663004.out).2.2)); (case side6 => exact (Kd.V_reads' HO_663004.out).2.1); rintro e w116 ⟨v681, rfl, ho0, hb⟩; refine ⟨_, rfl, ?_⟩; have HO682 := Aside0.mk (Kd.R_lower (Kd.R_newM (M := fun k_ => (w.heap.size ≤ k_)) ho0 (below_size (bq1_ HB.out GE662.out)) (fun k_ h_ => h_)) (below_size (bq1_ HB.out GE662.out))); replace HO_4 := mbR_ HO_4.out hb; replace HO_663002 := mbV_ HO_663002.out hb; replace HO_663003 := mbV_ HO_663003.out hb; replace HO_663004 := mbV_ HO_663004.out hb; replace HO679 := mbR_ HO679.out hb; replace BK662 := mvB_ BK662.out hb; replace HB := Aside0.mk (below_step (bq1_ HB.out GE662.out) hb); (try clear hb); (try clear ho0); obtain ⟨Ao117, co117, eo117⟩ := Kd.R_slice HO682.out; subst eo117; obtain ⟨Ao118, co118, eo118⟩ := Kd.R_slice HO679.out; subst eo118))
                replace HO_4 := Aside0.mk (Kd.R_drew HO_4.out)
                replace HO_663002 := Aside0.mk (Kd.V_drew HO_663002.out)
                replace HO_663003 := Aside0.mk (Kd.V_drew HO_663003.out)
                replace HO_663004 := Aside0.mk (Kd.V_drew HO_663004.out)
                replace HO679 := Aside0.mk (Kd.R_drew HO679.out)
                replace HO682 := Aside0.mk (Kd.R_drew HO682.out)
                replace BK662 := Aside0.mk (blk_drew BK662.out)
                replace HB := Aside0.mk (below_drew1 HB.out)
                refine start_ (n := 21) (S := fun w' => True) (ds := []) L6_0 (by kernel_rfl) rfl rfl trivial (fun hHeld => ?_); refine with_tabW fullerlaw23_ScriptSizes.tab18 fullerlaw23_ScriptSizes.bits18 (fun HT_ HW_ => ?_)
                generalize w116.drew = w119 at HO_4 HO_663002 HO_663003 HO_663004 HO679 HO682 BK662 HB hHeld ⊢
                refine pu_ 0 (some 88) L6_1 HT_ ?_
                refine pu_ 1 (some 89) L6_2 HT_ ?_
                refine skips_ (fuel := 15) (m := 19) HT_.out (fun _ _ _ _ _ h => h) [(2, 90), (3, 91), (4, 92), (5, 93)] L6_6 rfl (by kernel_rfl) (by kernel_rfl) (a' := ?_) ?_ ?_
                rotate_left
                ·simp only [putU, Act.put, sA_, sB_, sC_]
                 rfl
                refine pu_ 6 (some 94) L6_7 HT_ ?_
                refine pu_ 7 (some 95) L6_8 HT_ ?_
                refine skips_ (fuel := 6) (m := 13) HT_.out (fun _ _ _ _ _ h => h) [(8, 96), (9, 97), (10, 98), (11, 99), (12, 100), (13, 101), (14, 102)] L6_15 rfl (by kernel_rfl) (by kernel_rfl) (a' := ?_) ?_ ?_
                rotate_left
                ·simp only [putU, Act.put, sA_, sB_, sC_]
                 rfl
                refine pu_ 15 (some 103) L6_16 HT_ ?_
                refine pu_ 16 (some 104) L6_17 HT_ ?_
                refine skips_ (fuel := 2) (m := 4) HT_.out (fun _ _ _ _ _ h => h) [(17, 105), (18, 106)] L6_19 rfl (by kernel_rfl) (by kernel_rfl) (a' := ?_) ?_ ?_
                rotate_left
                ·simp only [putU, Act.put, sA_, sB_, sC_]
                 rfl
                refine pu_ 19 (some 107) L6_20 HT_ ?_
                refine pu_ 20 (some 2) L6_21 HT_ ?_
                refine done_ (done_of HT_.out (by kernel_rfl)) ?_
                try go_wp2
                go_ret
                exact ⟨by first | rfl | (simp <;> rfl) | (simp [*] <;> rfl), bq1_ HB.out GE662.out⟩
              ·rw [if_neg c82] at H
               have c82b0 : ((t680.length : Int) == 0) = false := beq_eq_false_iff_ne.mpr c82
               have c82b1 : ((t680.length : Int) != 0) = true := bne_iff_ne.mpr c82
               have c82b2 : ¬ (t680 = []) := fun h_ => c82 (by rw [h_]; rfl)
               obtain rfl := Option.some.inj H
               have hcz120_0 := cz0_ BK662.out
               have hcz120_1 := cz1_ BK662.out
               have hcz120_2 := cz2_ BK662.out
               have hcz120_3 := hc_ BK662 3
               have hcz120_4 := hc_ BK662 4
               have hcz120_5 := hc_ BK662 5
               have hcz120_6 := hc_ BK662 6
               have hcz120_7 := hc_ BK662 7
               have hcz120_8 := hc_ BK662 8
               have hcz120_9 := hc_ BK662 9
               have hcz120_10 := hc_ BK662 10
               have hfz120_0 := blk_frozen BK662.out 0
               have hfz120_1 := blk_frozen BK662.out 1
               have hfz120_2 := blk_frozen BK662.out 2
               have hfz120_3 := blk_frozen BK662.out 3
               have hfz120_4 := blk_frozen BK662.out 4
               have hfz120_5 := blk_frozen BK662.out 5
               have hfz120_6 := blk_frozen BK662.out 6
               have hfz120_7 := blk_frozen BK662.out 7
               have hfz120_8 := blk_frozen BK662.out 8
               have hfz120_9 := blk_frozen BK662.out 9
               have hfz120_10 := blk_frozen BK662.out 10
               go_wp2_with (first | ((with_reducible refine gate_callee (f := 17) rfl ?_); refine gL_ (some 62) Try.func17 #[.slice A0_2 l0_2.length c0_2] ?_; (with_reducible refine (wire_Write.calls kj36 _ _ l0_2 t676 t677 _ ?side1 ?side2 A41.out).mono ?_); (case side1 => exact mvC_ ((Kd.V_reads' HO_663002.out).2.2)); (case side2 => exact (Kd.V_reads' HO_663002.out).2.1); rintro e w121 ⟨v678, rfl, ho0, hb⟩; refine ⟨_, rfl, ?_⟩; have HO679 := Aside0.mk (Kd.R_lower (Kd.R_newM (M := fun k_ => (w.heap.size ≤ k_)) ho0 (below_size (bq1_ HB.out GE662.out)) (fun k_ h_ => h_)) (below_size (bq1_ HB.out GE662.out))); replace HO_4 := mbR_ HO_4.out hb; replace HO_663002 := mbV_ HO_663002.out hb; replace HO_663003 := mbV_ HO_663003.out hb; replace HO_663004 := mbV_ HO_663004.out hb; replace BK662 := mvB_ BK662.out hb; replace HB := Aside0.mk (below_step (bq1_ HB.out GE662.out) hb); (try clear hb); (try clear ho0); have hcz122_0 := cz0_ BK662.out; have hcz122_1 := cz1_ BK662.out; have hcz122_2 := cz2_ BK662.out; have hcz122_3 := hc_ BK662 3; have hcz122_4 := hc_ BK662 4; have hcz122_5 := hc_ BK662 5; have hcz122_6 := hc_ BK662 6; have hcz122_7 := hc_ BK662 7; have hcz122_8 := hc_ BK662 8; have hcz122_9 := hc_ BK662 9; have hcz122_10 := hc_ BK662 10; have hfz122_0 := blk_frozen BK662.out 0; have hfz122_1 := blk_frozen BK662.out 1; have hfz122_2 := blk_frozen BK662.out 2; have hfz122_3 := blk_frozen BK662.out 3; have hfz122_4 := blk_frozen BK662.out 4; have hfz122_5 := blk_frozen BK662.out 5; have hfz122_6 := blk_frozen BK662.out 6; have hfz122_7 := blk_frozen BK662.out 7; have hfz122_8 := blk_frozen BK662.out 8; have hfz122_9 := blk_frozen BK662.out 9; have hfz122_10 := blk_frozen BK662.out 10) | ((with_reducible refine gate_callee (f := 18) rfl ?_); refine gL_ (some 68) Try.func18 #[.slice none 0 0, .agg #[.slice A0_3 l0_3.length c0_3, .slice A0_4 l0_4.length c0_4]] ?_; (refine (image_Put.calls kj36 _ _ ([] : List Int) _ _ l0_3 _ _ l0_4 t680 t683 _ ?side1 ?side2 ?side3 ?side4 ?side5 ?side6 A42.out).mono ?_); (case side1 => exact Kd.C_nil _ _); (case side2 => exact Nat.le_refl _); (case side3 => exact mvC_ ((Kd.V_reads' HO_663003.out).2.2)); (case side4 => exact (Kd.V_reads' HO_663003.out).2.1); (case side5 => exact mvC_ ((Kd.V_reads' HO_663004.out).2.2)); (case side6 => exact (Kd.V_reads' HO_663004.out).2.1); rintro e w123 ⟨v681, rfl, ho0, hb⟩; refine ⟨_, rfl, ?_⟩; have HO682 := Aside0.mk (Kd.R_lower (Kd.R_newM (M := fun k_ => (w.heap.size ≤ k_)) ho0 (below_size (bq1_ HB.out GE662.out)) (fun k_ h_ => h_)) (below_size (bq1_ HB.out GE662.out))); replace HO_4 := mbR_ HO_4.out hb; replace HO_663002 := mbV_ HO_663002.out hb; replace HO_663003 := mbV_ HO_663003.out hb; replace HO_663004 := mbV_ HO_663004.out hb; replace HO679 := mbR_ HO679.out hb; replace BK662 := mvB_ BK662.out hb; replace HB := Aside0.mk (below_step (bq1_ HB.out GE662.out) hb); (try clear hb); (try clear ho0); obtain ⟨Ao124, co124, eo124⟩ := Kd.R_slice HO682.out; subst eo124))
               go_ret
               exact ⟨by first | rfl | (simp <;> rfl) | (simp [*] <;> rfl), bq1_ HB.out GE662.out⟩
            ·rw [if_neg c43] at H
             have c43b0 : (t677 == 0) = false := beq_eq_false_iff_ne.mpr c43
             have c43b1 : (t677 != 0) = true := bne_iff_ne.mpr c43
             obtain rfl := Option.some.inj H
             have hcz125_0 := cz0_ BK662.out
             have hcz125_1 := cz1_ BK662.out
             have hcz125_2 := cz2_ BK662.out
             have hcz125_3 := hc_ BK662 3
             have hcz125_4 := hc_ BK662 4
             have hcz125_5 := hc_ BK662 5
             have hcz125_6 := hc_ BK662 6
             have hcz125_7 := hc_ BK662 7
             have hcz125_8 := hc_ BK662 8
             have hcz125_9 := hc_ BK662 9
             have hcz125_10 := hc_ BK662 10
             have hfz125_0 := blk_frozen BK662.out 0
             have hfz125_1 := blk_frozen BK662.out 1
             have hfz125_2 := blk_frozen BK662.out 2
             have hfz125_3 := blk_frozen BK662.out 3
             have hfz125_4 := blk_frozen BK662.out 4
             have hfz125_5 := blk_frozen BK662.out 5
             have hfz125_6 := blk_frozen BK662.out 6
             have hfz125_7 := blk_frozen BK662.out 7
             have hfz125_8 := blk_frozen BK662.out 8
             have hfz125_9 := blk_frozen BK662.out 9
             have hfz125_10 := blk_frozen BK662.out 10
             go_wp2_with (first | ((with_reducible refine gate_callee (f := 17) rfl ?_); refine gL_ (some 62) Try.func17 #[.slice A0_2 l0_2.length c0_2] ?_; (with_reducible refine (wire_Write.calls kj36 _ _ l0_2 t676 t677 _ ?side1 ?side2 A41.out).mono ?_); (case side1 => exact mvC_ ((Kd.V_reads' HO_663002.out).2.2)); (case side2 => exact (Kd.V_reads' HO_663002.out).2.1); rintro e w126 ⟨v678, rfl, ho0, hb⟩; refine ⟨_, rfl, ?_⟩; have HO679 := Aside0.mk (Kd.R_lower (Kd.R_newM (M := fun k_ => (w.heap.size ≤ k_)) ho0 (below_size (bq1_ HB.out GE662.out)) (fun k_ h_ => h_)) (below_size (bq1_ HB.out GE662.out))); replace HO_4 := mbR_ HO_4.out hb; replace HO_663002 := mbV_ HO_663002.out hb; replace HO_663003 := mbV_ HO_663003.out hb; replace HO_663004 := mbV_ HO_663004.out hb; replace BK662 := mvB_ BK662.out hb; replace HB := Aside0.mk (below_step (bq1_ HB.out GE662.out) hb); (try clear hb); (try clear ho0); have hcz127_0 := cz0_ BK662.out; have hcz127_1 := cz1_ BK662.out; have hcz127_2 := cz2_ BK662.out; have hcz127_3 := hc_ BK662 3; have hcz127_4 := hc_ BK662 4; have hcz127_5 := hc_ BK662 5; have hcz127_6 := hc_ BK662 6; have hcz127_7 := hc_ BK662 7; have hcz127_8 := hc_ BK662 8; have hcz127_9 := hc_ BK662 9; have hcz127_10 := hc_ BK662 10; have hfz127_0 := blk_frozen BK662.out 0; have hfz127_1 := blk_frozen BK662.out 1; have hfz127_2 := blk_frozen BK662.out 2; have hfz127_3 := blk_frozen BK662.out 3; have hfz127_4 := blk_frozen BK662.out 4; have hfz127_5 := blk_frozen BK662.out 5; have hfz127_6 := blk_frozen BK662.out 6; have hfz127_7 := blk_frozen BK662.out 7; have hfz127_8 := blk_frozen BK662.out 8; have hfz127_9 := blk_frozen BK662.out 9; have hfz127_10 := blk_frozen BK662.out 10) | ((with_reducible refine gate_callee (f := 18) rfl ?_); refine gL_ (some 68) Try.func18 #[.slice none 0 0, .agg #[.slice A0_3 l0_3.length c0_3, .slice A0_4 l0_4.length c0_4]] ?_; (refine (image_Put.calls kj36 _ _ ([] : List Int) _ _ l0_3 _ _ l0_4 t680 t683 _ ?side1 ?side2 ?side3 ?side4 ?side5 ?side6 A42.out).mono ?_); (case side1 => exact Kd.C_nil _ _); (case side2 => exact Nat.le_refl _); (case side3 => exact mvC_ ((Kd.V_reads' HO_663003.out).2.2)); (case side4 => exact (Kd.V_reads' HO_663003.out).2.1); (case side5 => exact mvC_ ((Kd.V_reads' HO_663004.out).2.2)); (case side6 => exact (Kd.V_reads' HO_663004.out).2.1); rintro e w128 ⟨v681, rfl, ho0, hb⟩; refine ⟨_, rfl, ?_⟩; have HO682 := Aside0.mk (Kd.R_lower (Kd.R_newM (M := fun k_ => (w.heap.size ≤ k_)) ho0 (below_size (bq1_ HB.out GE662.out)) (fun k_ h_ => h_)) (below_size (bq1_ HB.out GE662.out))); replace HO_4 := mbR_ HO_4.out hb; replace HO_663002 := mbV_ HO_663002.out hb; replace HO_663003 := mbV_ HO_663003.out hb; replace HO_663004 := mbV_ HO_663004.out hb; replace HO679 := mbR_ HO679.out hb; replace BK662 := mvB_ BK662.out hb; replace HB := Aside0.mk (below_step (bq1_ HB.out GE662.out) hb); (try clear hb); (try clear ho0)))
             go_ret
             exact ⟨by first | rfl | (simp <;> rfl) | (simp [*] <;> rfl), bq1_ HB.out GE662.out⟩
           ·rw [if_neg c40] at H
            have c40b0 : (a0_0 == 2) = false := beq_eq_false_iff_ne.mpr c40
            have c40b1 : (a0_0 != 2) = true := bne_iff_ne.mpr c40
            by_cases c129 : t663 = true
            ·subst c129
             have H1 : (if (t671.length : Int) = x6_36 then (if 0 < (t671.length : Int) then (if (wrap64 (rd t671 0)) = a0_0 then ((script_Check.f kj36 a0_0 a0_1 l0_2 l0_3 l0_4 a0_5 a0_6 a0_7 a0_8 a0_9 a0_10).bind fun t689 => (some t689)) else (some false)) else (none)) else (some false)) = some r := by rw [if_pos rfl] at H; exact H
             clear H
             have H := H1
             clear H1
             by_cases c130 : (t671.length : Int) = x6_36
             ·rw [if_pos c130] at H
              obtain ⟨c130b0, c130b1⟩ := eqT_ c130
              clear c130
              by_cases c131 : 0 < (t671.length : Int)
              ·rw [if_pos c131] at H
               have c131b0 : decide (0 < (t671.length : Int)) = true := decide_eq_true c131
               have c131b1 : decide (0 < t671.length) = true := decide_eq_true (by omega)
               clear c131
               by_cases c132 : (wrap64 (rd t671 0)) = a0_0
               ·rw [if_pos c132] at H
                obtain ⟨c132b0, c132b1⟩ := eqT_ c132
                clear c132
                replace H := Option.bind_eq_some_iff.mp H
                obtain ⟨t689, A1330, H⟩ := H
                replace H : (some t689) = some r := H
                have A133 := Aside0.mk A1330
                clear A1330
                obtain rfl := Option.some.inj H
                have hcz134_0 := cz0_ BK662.out
                have hcz134_1 := cz1_ BK662.out
                have hcz134_2 := cz2_ BK662.out
                have hcz134_3 := hc_ BK662 3
                have hcz134_4 := hc_ BK662 4
                have hcz134_5 := hc_ BK662 5
                have hcz134_6 := hc_ BK662 6
                have hcz134_7 := hc_ BK662 7
                have hcz134_8 := hc_ BK662 8
                have hcz134_9 := hc_ BK662 9
                have hcz134_10 := hc_ BK662 10
                have hfz134_0 := blk_frozen BK662.out 0
                have hfz134_1 := blk_frozen BK662.out 1
                have hfz134_2 := blk_frozen BK662.out 2
                have hfz134_3 := blk_frozen BK662.out 3
                have hfz134_4 := blk_frozen BK662.out 4
                have hfz134_5 := blk_frozen BK662.out 5
                have hfz134_6 := blk_frozen BK662.out 6
                have hfz134_7 := blk_frozen BK662.out 7
                have hfz134_8 := blk_frozen BK662.out 8
                have hfz134_9 := blk_frozen BK662.out 9
                have hfz134_10 := blk_frozen BK662.out 10
                try go_wp2
                replace HO_4 := Aside0.mk (Kd.R_drew HO_4.out)
                replace HO_663002 := Aside0.mk (Kd.V_drew HO_663002.out)
                replace HO_663003 := Aside0.mk (Kd.V_drew HO_663003.out)
                replace HO_663004 := Aside0.mk (Kd.V_drew HO_663004.out)
                replace BK662 := Aside0.mk (blk_drew BK662.out)
                replace HB := Aside0.mk (below_drew1 HB.out)
                obtain ⟨Ao136, co136, eo136⟩ := Kd.R_slice HO_4.out
                (first | subst eo136 | (injection eo136 with f1_ f2_ f3_; have f4_ := f1_.symm; have f5_ := f3_.symm; clear f1_ f2_ f3_; subst f4_; subst f5_))
                have p688 : 0 ≤ (0 : Int) := (by omega)
                have q688 : 0 < (t671.length : Int) := od_
                obtain ⟨ad688, e688, hx688_0⟩ := Kd.at_int (Kd.R_reads' HO_4.out).2.2 0 p688 q688
                cases e688
                have qi688 : (0 < t671.length) = True := eq_true (by omega)
                (try rw [show ((0 : Int)).toNat = 0 from rfl] at hx688_0)
                (try rw [Addr.add_zero'] at hx688_0)
                replace p688 := eq_true p688
                replace q688 := eq_true q688
                refine start_ (n := 21) (S := fun w' => w'.cell? ⟨gb662, 0, none⟩ = some (.int .i64 a0_0) ∧ w'.cell? ⟨gb662, 1, none⟩ = some (.int .i64 a0_1) ∧ w'.cell? ⟨gb662, 2, none⟩ = some (.slice A0_2 l0_2.length c0_2) ∧ w'.cell? ⟨gb662, 3, none⟩ = some (.slice A0_3 l0_3.length c0_3) ∧ w'.cell? ⟨gb662, 4, none⟩ = some (.slice A0_4 l0_4.length c0_4) ∧ w'.cell? ⟨gb662, 5, none⟩ = some (.int .i64 a0_5) ∧ w'.cell? ⟨gb662, 6, none⟩ = some (.int .i64 a0_6) ∧ w'.cell? ⟨gb662, 7, none⟩ = some (.int .i64 a0_7) ∧ w'.cell? ⟨gb662, 8, none⟩ = some (.int .i64 a0_8) ∧ w'.cell? ⟨gb662, 9, none⟩ = some (.int .i64 a0_9) ∧ w'.cell? ⟨gb662, 10, none⟩ = some (.int .i64 a0_10) ∧ w'.cell? ad688 = some (.int .u8 (rd t671 0))) (ds := []) L6_0 (by kernel_rfl) rfl rfl ⟨(blk_cell BK662.out 0).trans rfl, (blk_cell BK662.out 1).trans rfl, (blk_cell BK662.out 2).trans rfl, (blk_cell BK662.out 3).trans rfl, (blk_cell BK662.out 4).trans rfl, (blk_cell BK662.out 5).trans rfl, (blk_cell BK662.out 6).trans rfl, (blk_cell BK662.out 7).trans rfl, (blk_cell BK662.out 8).trans rfl, (blk_cell BK662.out 9).trans rfl, (blk_cell BK662.out 10).trans rfl, hx688_0⟩ (fun hHeld => ?_); refine with_tabW fullerlaw23_ScriptSizes.tab18 fullerlaw23_ScriptSizes.bits18 (fun HT_ HW_ => ?_)
                generalize wc.drew = w135 at HO_4 HO_663002 HO_663003 HO_663004 BK662 HB hx688_0 hHeld ⊢
                refine pu_ 0 (some 88) L6_1 HT_ ?_
                refine pu_ 1 (some 89) L6_2 HT_ ?_
                refine pu_ 2 (some 90) L6_3 HT_ ?_
                refine pu_ 3 (some 91) L6_4 HT_ ?_
                refine pu_ 4 (some 92) L6_5 HT_ ?_
                refine pu_ 5 (some 93) L6_6 HT_ ?_
                refine pu_ 6 (some 94) L6_7 HT_ ?_
                refine pu_ 7 (some 95) L6_8 HT_ ?_
                refine pu_ 8 (some 96) L6_9 HT_ ?_
                refine pu_ 9 (some 97) L6_10 HT_ ?_
                refine pu_ 12 (some 100) L6_11 HT_ ?_
                refine ta_ 10 (some 98) L6_12 HT_ HW_ hHeld ?_ (hy := by rintro w' ⟨s0, s1, s2, s3, s4, s5, s6, s7, s8, s9, s10, s11⟩; go_simp; with_reducible rfl)
                refine pu_ 11 (some 99) L6_13 HT_ ?_
                refine ta_ 13 (some 101) L6_14 HT_ HW_ hHeld ?_ (hy := by rintro w' ⟨s0, s1, s2, s3, s4, s5, s6, s7, s8, s9, s10, s11⟩; go_simp; with_reducible rfl)
                refine pu_ 14 (some 102) L6_15 HT_ ?_
                refine pu_ 15 (some 103) L6_16 HT_ ?_
                refine pu_ 16 (some 104) L6_17 HT_ ?_
                refine ta_ 17 (some 105) L6_18 HT_ HW_ hHeld ?_ (hy := by rintro w' ⟨s0, s1, s2, s3, s4, s5, s6, s7, s8, s9, s10, s11⟩; go_simp; with_reducible rfl)
                refine one_ (i := 18) (N := some 106) L6_19 rfl rfl (one_of HT_.out (by kernel_rfl)) (by decide) (fun K hK => ?_)
                refine goes_ Try.func15 (by kernel_rfl) rfl #[.agg #[.int .i64 a0_0, .int .i64 a0_1, .slice A0_2 l0_2.length c0_2, .slice A0_3 l0_3.length c0_3, .slice A0_4 l0_4.length c0_4, .int .i64 a0_5, .int .i64 a0_6, .int .i64 a0_7, .int .i64 a0_8, .int .i64 a0_9, .int .i64 a0_10]] (by rfl) rfl rfl (by (try simp only [List.map_toArray, List.map_cons, List.map_nil]); first | done | rfl | (simp only [List.length_drop, List.length_take]; rfl)) ?_
                with_reducible refine (script_Check.calls kj36 a0_0 a0_1 _ _ l0_2 _ _ l0_3 _ _ l0_4 a0_5 a0_6 a0_7 a0_8 a0_9 a0_10 t689 _ ?side1 ?side2 ?side3 ?side4 ?side5 ?side6 A133.out).mono ?_
                (case side1 => exact mvC_ ((Kd.V_reads' HO_663002.out).2.2))
                (case side2 => exact (Kd.V_reads' HO_663002.out).2.1)
                (case side3 => exact mvC_ ((Kd.V_reads' HO_663003.out).2.2))
                (case side4 => exact (Kd.V_reads' HO_663003.out).2.1)
                (case side5 => exact mvC_ ((Kd.V_reads' HO_663004.out).2.2))
                (case side6 => exact (Kd.V_reads' HO_663004.out).2.1)
                rintro e w137 ⟨rfl, hb⟩
                have HS11_ := (hb.cell (World.block_lt_of_cell? _ _ (hHeld.2.2.2.2.2.2.2.2.2.2.2))).trans (hHeld.2.2.2.2.2.2.2.2.2.2.2)
                refine ⟨_, rfl, ?_⟩
                replace HO_4 := mbR_ HO_4.out hb
                replace HO_663002 := mbV_ HO_663002.out hb
                replace HO_663003 := mbV_ HO_663003.out hb
                replace HO_663004 := mbV_ HO_663004.out hb
                replace BK662 := mvB_ BK662.out hb
                replace HB := Aside0.mk (below_step (bq1_ HB.out GE662.out) hb)
                (try clear hb)
                (try clear hb2)
                (try clear hk)
                (try clear hi)
                refine hK.out _ _ ⟨(blk_cell BK662.out 0).trans rfl, (blk_cell BK662.out 1).trans rfl, (blk_cell BK662.out 2).trans rfl, (blk_cell BK662.out 3).trans rfl, (blk_cell BK662.out 4).trans rfl, (blk_cell BK662.out 5).trans rfl, (blk_cell BK662.out 6).trans rfl, (blk_cell BK662.out 7).trans rfl, (blk_cell BK662.out 8).trans rfl, (blk_cell BK662.out 9).trans rfl, (blk_cell BK662.out 10).trans rfl, HS11_⟩ (fun hHeld => ?_)
                clear hK K
                refine norm_ (a' := ?_) ?_ ?_
                rotate_left
                ·show Act.put _ (some 106) _ = _
                 simp only [Act.put, sA_, sB_, sC_, i64_w, i32_w]
                 rfl
                refine pu_ 19 (some 107) L6_20 HT_ ?_
                refine pu_ 20 (some 2) L6_21 HT_ ?_
                refine done_ (done_of HT_.out (by kernel_rfl)) ?_
                try go_wp2
                go_ret
                exact ⟨by first | rfl | (simp <;> rfl) | (simp [*] <;> rfl), bq1_ HB.out GE662.out⟩
               ·rw [if_neg c132] at H
                have c132b0 : ((wrap64 (rd t671 0)) == a0_0) = false := beq_eq_false_iff_ne.mpr c132
                have c132b1 : ((wrap64 (rd t671 0)) != a0_0) = true := bne_iff_ne.mpr c132
                obtain rfl := Option.some.inj H
                have hcz138_0 := cz0_ BK662.out
                have hcz138_1 := cz1_ BK662.out
                have hcz138_2 := cz2_ BK662.out
                have hcz138_3 := hc_ BK662 3
                have hcz138_4 := hc_ BK662 4
                have hcz138_5 := hc_ BK662 5
                have hcz138_6 := hc_ BK662 6
                have hcz138_7 := hc_ BK662 7
                have hcz138_8 := hc_ BK662 8
                have hcz138_9 := hc_ BK662 9
                have hcz138_10 := hc_ BK662 10
                have hfz138_0 := blk_frozen BK662.out 0
                have hfz138_1 := blk_frozen BK662.out 1
                have hfz138_2 := blk_frozen BK662.out 2
                have hfz138_3 := blk_frozen BK662.out 3
                have hfz138_4 := blk_frozen BK662.out 4
                have hfz138_5 := blk_frozen BK662.out 5
                have hfz138_6 := blk_frozen BK662.out 6
                have hfz138_7 := blk_frozen BK662.out 7
                have hfz138_8 := blk_frozen BK662.out 8
                have hfz138_9 := blk_frozen BK662.out 9
                have hfz138_10 := blk_frozen BK662.out 10
                try go_wp2
                replace HO_4 := Aside0.mk (Kd.R_drew HO_4.out)
                replace HO_663002 := Aside0.mk (Kd.V_drew HO_663002.out)
                replace HO_663003 := Aside0.mk (Kd.V_drew HO_663003.out)
                replace HO_663004 := Aside0.mk (Kd.V_drew HO_663004.out)
                replace BK662 := Aside0.mk (blk_drew BK662.out)
                replace HB := Aside0.mk (below_drew1 HB.out)
                obtain ⟨Ao140, co140, eo140⟩ := Kd.R_slice HO_4.out
                (first | subst eo140 | (injection eo140 with f1_ f2_ f3_; have f4_ := f1_.symm; have f5_ := f3_.symm; clear f1_ f2_ f3_; subst f4_; subst f5_))
                have p688 : 0 ≤ (0 : Int) := (by omega)
                have q688 : 0 < (t671.length : Int) := od_
                obtain ⟨ad688, e688, hx688_0⟩ := Kd.at_int (Kd.R_reads' HO_4.out).2.2 0 p688 q688
                cases e688
                have qi688 : (0 < t671.length) = True := eq_true (by omega)
                (try rw [show ((0 : Int)).toNat = 0 from rfl] at hx688_0)
                (try rw [Addr.add_zero'] at hx688_0)
                replace p688 := eq_true p688
                replace q688 := eq_true q688
                refine start_ (n := 21) (S := fun w' => w'.cell? ⟨gb662, 0, none⟩ = some (.int .i64 a0_0) ∧ w'.cell? ⟨gb662, 1, none⟩ = some (.int .i64 a0_1) ∧ w'.cell? ⟨gb662, 2, none⟩ = some (.slice A0_2 l0_2.length c0_2) ∧ w'.cell? ⟨gb662, 3, none⟩ = some (.slice A0_3 l0_3.length c0_3) ∧ w'.cell? ⟨gb662, 4, none⟩ = some (.slice A0_4 l0_4.length c0_4) ∧ w'.cell? ⟨gb662, 5, none⟩ = some (.int .i64 a0_5) ∧ w'.cell? ⟨gb662, 6, none⟩ = some (.int .i64 a0_6) ∧ w'.cell? ⟨gb662, 7, none⟩ = some (.int .i64 a0_7) ∧ w'.cell? ⟨gb662, 8, none⟩ = some (.int .i64 a0_8) ∧ w'.cell? ⟨gb662, 9, none⟩ = some (.int .i64 a0_9) ∧ w'.cell? ⟨gb662, 10, none⟩ = some (.int .i64 a0_10) ∧ w'.cell? ad688 = some (.int .u8 (rd t671 0))) (ds := []) L6_0 (by kernel_rfl) rfl rfl ⟨(blk_cell BK662.out 0).trans rfl, (blk_cell BK662.out 1).trans rfl, (blk_cell BK662.out 2).trans rfl, (blk_cell BK662.out 3).trans rfl, (blk_cell BK662.out 4).trans rfl, (blk_cell BK662.out 5).trans rfl, (blk_cell BK662.out 6).trans rfl, (blk_cell BK662.out 7).trans rfl, (blk_cell BK662.out 8).trans rfl, (blk_cell BK662.out 9).trans rfl, (blk_cell BK662.out 10).trans rfl, hx688_0⟩ (fun hHeld => ?_); refine with_tabW fullerlaw23_ScriptSizes.tab18 fullerlaw23_ScriptSizes.bits18 (fun HT_ HW_ => ?_)
                generalize wc.drew = w139 at HO_4 HO_663002 HO_663003 HO_663004 BK662 HB hx688_0 hHeld ⊢
                refine pu_ 0 (some 88) L6_1 HT_ ?_
                refine pu_ 1 (some 89) L6_2 HT_ ?_
                refine pu_ 2 (some 90) L6_3 HT_ ?_
                refine pu_ 3 (some 91) L6_4 HT_ ?_
                refine pu_ 4 (some 92) L6_5 HT_ ?_
                refine pu_ 5 (some 93) L6_6 HT_ ?_
                refine pu_ 6 (some 94) L6_7 HT_ ?_
                refine pu_ 7 (some 95) L6_8 HT_ ?_
                refine pu_ 8 (some 96) L6_9 HT_ ?_
                refine pu_ 9 (some 97) L6_10 HT_ ?_
                refine pu_ 12 (some 100) L6_11 HT_ ?_
                refine ta_ 10 (some 98) L6_12 HT_ HW_ hHeld ?_ (hy := by rintro w' ⟨s0, s1, s2, s3, s4, s5, s6, s7, s8, s9, s10, s11⟩; go_simp; with_reducible rfl)
                refine pu_ 11 (some 99) L6_13 HT_ ?_
                refine ta_ 13 (some 101) L6_14 HT_ HW_ hHeld ?_ (hy := by rintro w' ⟨s0, s1, s2, s3, s4, s5, s6, s7, s8, s9, s10, s11⟩; go_simp; with_reducible rfl)
                refine pu_ 14 (some 102) L6_15 HT_ ?_
                refine pu_ 15 (some 103) L6_16 HT_ ?_
                refine pu_ 16 (some 104) L6_17 HT_ ?_
                refine skips_ (fuel := 2) (m := 4) HT_.out (fun _ _ _ _ _ h => h) [(17, 105), (18, 106)] L6_19 rfl (by kernel_rfl) (by kernel_rfl) (a' := ?_) ?_ ?_
                rotate_left
                ·simp only [putU, Act.put, sA_, sB_, sC_]
                 rfl
                refine pu_ 19 (some 107) L6_20 HT_ ?_
                refine pu_ 20 (some 2) L6_21 HT_ ?_
                refine done_ (done_of HT_.out (by kernel_rfl)) ?_
                try go_wp2
                go_ret
                exact ⟨by first | rfl | (simp <;> rfl) | (simp [*] <;> rfl), bq1_ HB.out GE662.out⟩
              ·rw [if_neg c131] at H
               exact absurd H (by simp)
             ·rw [if_neg c130] at H
              have c130b0 : ((t671.length : Int) == x6_36) = false := beq_eq_false_iff_ne.mpr c130
              have c130b1 : ((t671.length : Int) != x6_36) = true := bne_iff_ne.mpr c130
              obtain rfl := Option.some.inj H
              have hcz141_0 := cz0_ BK662.out
              have hcz141_1 := cz1_ BK662.out
              have hcz141_2 := cz2_ BK662.out
              have hcz141_3 := hc_ BK662 3
              have hcz141_4 := hc_ BK662 4
              have hcz141_5 := hc_ BK662 5
              have hcz141_6 := hc_ BK662 6
              have hcz141_7 := hc_ BK662 7
              have hcz141_8 := hc_ BK662 8
              have hcz141_9 := hc_ BK662 9
              have hcz141_10 := hc_ BK662 10
              have hfz141_0 := blk_frozen BK662.out 0
              have hfz141_1 := blk_frozen BK662.out 1
              have hfz141_2 := blk_frozen BK662.out 2
              have hfz141_3 := blk_frozen BK662.out 3
              have hfz141_4 := blk_frozen BK662.out 4
              have hfz141_5 := blk_frozen BK662.out 5
              have hfz141_6 := blk_frozen BK662.out 6
              have hfz141_7 := blk_frozen BK662.out 7
              have hfz141_8 := blk_frozen BK662.out 8
              have hfz141_9 := blk_frozen BK662.out 9
              have hfz141_10 := blk_frozen BK662.out 10
              try go_wp2
              replace HO_4 := Aside0.mk (Kd.R_drew HO_4.out)
              replace HO_663002 := Aside0.mk (Kd.V_drew HO_663002.out)
              replace HO_663003 := Aside0.mk (Kd.V_drew HO_663003.out)
              replace HO_663004 := Aside0.mk (Kd.V_drew HO_663004.out)
              replace BK662 := Aside0.mk (blk_drew BK662.out)
              replace HB := Aside0.mk (below_drew1 HB.out)
              obtain ⟨Ao143, co143, eo143⟩ := Kd.R_slice HO_4.out
              (first | subst eo143 | (injection eo143 with f1_ f2_ f3_; have f4_ := f1_.symm; have f5_ := f3_.symm; clear f1_ f2_ f3_; subst f4_; subst f5_))
              refine start_ (n := 21) (S := fun w' => True) (ds := []) L6_0 (by kernel_rfl) rfl rfl trivial (fun hHeld => ?_); refine with_tabW fullerlaw23_ScriptSizes.tab18 fullerlaw23_ScriptSizes.bits18 (fun HT_ HW_ => ?_)
              generalize wc.drew = w142 at HO_4 HO_663002 HO_663003 HO_663004 BK662 HB hHeld ⊢
              refine pu_ 0 (some 88) L6_1 HT_ ?_
              refine pu_ 1 (some 89) L6_2 HT_ ?_
              refine pu_ 2 (some 90) L6_3 HT_ ?_
              refine pu_ 3 (some 91) L6_4 HT_ ?_
              refine pu_ 4 (some 92) L6_5 HT_ ?_
              refine pu_ 5 (some 93) L6_6 HT_ ?_
              refine pu_ 6 (some 94) L6_7 HT_ ?_
              refine pu_ 7 (some 95) L6_8 HT_ ?_
              refine skips_ (fuel := 6) (m := 13) HT_.out (fun _ _ _ _ _ h => h) [(8, 96), (9, 97), (10, 98), (11, 99), (12, 100), (13, 101), (14, 102)] L6_15 rfl (by kernel_rfl) (by kernel_rfl) (a' := ?_) ?_ ?_
              rotate_left
              ·simp only [putU, Act.put, sA_, sB_, sC_]
               rfl
              refine pu_ 15 (some 103) L6_16 HT_ ?_
              refine pu_ 16 (some 104) L6_17 HT_ ?_
              refine skips_ (fuel := 2) (m := 4) HT_.out (fun _ _ _ _ _ h => h) [(17, 105), (18, 106)] L6_19 rfl (by kernel_rfl) (by kernel_rfl) (a' := ?_) ?_ ?_
              rotate_left
              ·simp only [putU, Act.put, sA_, sB_, sC_]
               rfl
              refine pu_ 19 (some 107) L6_20 HT_ ?_
              refine pu_ 20 (some 2) L6_21 HT_ ?_
              refine done_ (done_of HT_.out (by kernel_rfl)) ?_
              try go_wp2
              go_ret
              exact ⟨by first | rfl | (simp <;> rfl) | (simp [*] <;> rfl), bq1_ HB.out GE662.out⟩
            ·replace c129 := Bool.eq_false_iff.mpr c129
             subst c129
             have H1 : (some false) = some r := by rw [if_neg (show ¬ (false = true) by decide)] at H; exact H
             clear H
             have H := H1
             clear H1
             obtain rfl := Option.some.inj H
             have hcz144_0 := cz0_ BK662.out
             have hcz144_1 := cz1_ BK662.out
             have hcz144_2 := cz2_ BK662.out
             have hcz144_3 := hc_ BK662 3
             have hcz144_4 := hc_ BK662 4
             have hcz144_5 := hc_ BK662 5
             have hcz144_6 := hc_ BK662 6
             have hcz144_7 := hc_ BK662 7
             have hcz144_8 := hc_ BK662 8
             have hcz144_9 := hc_ BK662 9
             have hcz144_10 := hc_ BK662 10
             have hfz144_0 := blk_frozen BK662.out 0
             have hfz144_1 := blk_frozen BK662.out 1
             have hfz144_2 := blk_frozen BK662.out 2
             have hfz144_3 := blk_frozen BK662.out 3
             have hfz144_4 := blk_frozen BK662.out 4
             have hfz144_5 := blk_frozen BK662.out 5
             have hfz144_6 := blk_frozen BK662.out 6
             have hfz144_7 := blk_frozen BK662.out 7
             have hfz144_8 := blk_frozen BK662.out 8
             have hfz144_9 := blk_frozen BK662.out 9
             have hfz144_10 := blk_frozen BK662.out 10
             try go_wp2
             replace HO_4 := Aside0.mk (Kd.R_drew HO_4.out)
             replace HO_663002 := Aside0.mk (Kd.V_drew HO_663002.out)
             replace HO_663003 := Aside0.mk (Kd.V_drew HO_663003.out)
             replace HO_663004 := Aside0.mk (Kd.V_drew HO_663004.out)
             replace BK662 := Aside0.mk (blk_drew BK662.out)
             replace HB := Aside0.mk (below_drew1 HB.out)
             refine start_ (n := 21) (S := fun w' => True) (ds := []) L6_0 (by kernel_rfl) rfl rfl trivial (fun hHeld => ?_); refine with_tabW fullerlaw23_ScriptSizes.tab18 fullerlaw23_ScriptSizes.bits18 (fun HT_ HW_ => ?_)
             generalize wc.drew = w145 at HO_4 HO_663002 HO_663003 HO_663004 BK662 HB hHeld ⊢
             refine pu_ 0 (some 88) L6_1 HT_ ?_
             refine pu_ 1 (some 89) L6_2 HT_ ?_
             refine skips_ (fuel := 15) (m := 19) HT_.out (fun _ _ _ _ _ h => h) [(2, 90), (3, 91), (4, 92), (5, 93)] L6_6 rfl (by kernel_rfl) (by kernel_rfl) (a' := ?_) ?_ ?_
             rotate_left
             ·simp only [putU, Act.put, sA_, sB_, sC_]
              rfl
             refine pu_ 6 (some 94) L6_7 HT_ ?_
             refine pu_ 7 (some 95) L6_8 HT_ ?_
             refine skips_ (fuel := 6) (m := 13) HT_.out (fun _ _ _ _ _ h => h) [(8, 96), (9, 97), (10, 98), (11, 99), (12, 100), (13, 101), (14, 102)] L6_15 rfl (by kernel_rfl) (by kernel_rfl) (a' := ?_) ?_ ?_
             rotate_left
             ·simp only [putU, Act.put, sA_, sB_, sC_]
              rfl
             refine pu_ 15 (some 103) L6_16 HT_ ?_
             refine pu_ 16 (some 104) L6_17 HT_ ?_
             refine skips_ (fuel := 2) (m := 4) HT_.out (fun _ _ _ _ _ h => h) [(17, 105), (18, 106)] L6_19 rfl (by kernel_rfl) (by kernel_rfl) (a' := ?_) ?_ ?_
             rotate_left
             ·simp only [putU, Act.put, sA_, sB_, sC_]
              rfl
             refine pu_ 19 (some 107) L6_20 HT_ ?_
             refine pu_ 20 (some 2) L6_21 HT_ ?_
             refine done_ (done_of HT_.out (by kernel_rfl)) ?_
             try go_wp2
             go_ret
             exact ⟨by first | rfl | (simp <;> rfl) | (simp [*] <;> rfl), bq1_ HB.out GE662.out⟩
 ·replace c4 := Bool.eq_false_iff.mpr c4
  subst c4
  have H1 : (some t663) = some r := by rw [if_neg (show ¬ (false = true) by decide)] at H; exact H
  clear H
  have H := H1
  clear H1
  obtain rfl := Option.some.inj H
  go_enter Try.func6, Try.ntmps6
  go_wp2_with (first | ((with_reducible refine gate_dst (N := 1) rfl ?_); (try (refine gate_guard (by rfl) ?_; dsimp only)); refine box_event ?hg (N := 1) ?hd (cs := #[.int .i64 a0_0, .int .i64 a0_1, .slice A0_2 l0_2.length c0_2, .slice A0_3 l0_3.length c0_3, .slice A0_4 l0_4.length c0_4, .int .i64 a0_5, .int .i64 a0_6, .int .i64 a0_7, .int .i64 a0_8, .int .i64 a0_9, .int .i64 a0_10]) (t := 30) ?hr ?_; (case hd => rfl); (case hg => rfl); (case hr => first | (go_simp; done) | (go_simp; rfl)); intro gb662 hg w146 hbox hb; have BK662 := Aside0.mk (hbox); have GW662 := Aside0.mk ((by rw [hg]; exact (below_size (bq0_ HB.out)) : w.heap.size ≤ gb662)); have GE662 := Aside0.mk ((by rw [hg]; exact (below_size (bq0_ HB.out)) : w.heap.size ≤ gb662)); replace HO0_2 := Aside0.mk (Kd.V_below (Kd.V_elderB (mvV_ HO0_2.out) gb662 (Nat.le_of_eq hg.symm)) hb); replace HO0_3 := Aside0.mk (Kd.V_below (Kd.V_elderB (mvV_ HO0_3.out) gb662 (Nat.le_of_eq hg.symm)) hb); replace HO0_4 := Aside0.mk (Kd.V_below (Kd.V_elderB (mvV_ HO0_4.out) gb662 (Nat.le_of_eq hg.symm)) hb); replace HB := Aside0.mk (below_step (bq0_ HB.out) hb); clear hb hbox hg) | ((with_reducible refine gate_callee (f := 8) rfl ?_); refine gL_ (some 11) Try.func8 #[] ?_; (with_reducible refine (fullerlaw23_awake.calls k  t663 _ A2.out).mono ?_); rintro e w147 ⟨rfl, hb⟩; refine ⟨_, rfl, ?_⟩; replace HO0_2 := mbV_ HO0_2.out hb; replace HO0_3 := mbV_ HO0_3.out hb; replace HO0_4 := mbV_ HO0_4.out hb; replace BK662 := mvB_ BK662.out hb; replace HB := Aside0.mk (below_step (bq1_ HB.out GE662.out) hb); (try clear hb); have hcz148_0 := cz0_ BK662.out; have hcz148_1 := cz1_ BK662.out; have hcz148_2 := cz2_ BK662.out; have hcz148_3 := hc_ BK662 3; have hcz148_4 := hc_ BK662 4; have hcz148_5 := hc_ BK662 5; have hcz148_6 := hc_ BK662 6; have hcz148_7 := hc_ BK662 7; have hcz148_8 := hc_ BK662 8; have hcz148_9 := hc_ BK662 9; have hcz148_10 := hc_ BK662 10; have hfz148_0 := blk_frozen BK662.out 0; have hfz148_1 := blk_frozen BK662.out 1; have hfz148_2 := blk_frozen BK662.out 2; have hfz148_3 := blk_frozen BK662.out 3; have hfz148_4 := blk_frozen BK662.out 4; have hfz148_5 := blk_frozen BK662.out 5; have hfz148_6 := blk_frozen BK662.out 6; have hfz148_7 := blk_frozen BK662.out 7; have hfz148_8 := blk_frozen BK662.out 8; have hfz148_9 := blk_frozen BK662.out 9; have hfz148_10 := blk_frozen BK662.out 10) | ((with_reducible refine gate_dst (N := 13) rfl ?_); (try (refine gate_guard (by rfl) ?_; dsimp only)); refine Kd.N_lit k30 _ 30 ?hg (N' := 13) ?hd (xs := ([(⟨a0_0, a0_1, l0_2, (⟨l0_3, l0_4⟩ : S26), (⟨a0_5, a0_6, a0_7, a0_8⟩ : S28), a0_9, a0_10⟩ : S30)] : List (S30))) (inner := [.int .i64 a0_0, .int .i64 a0_1, .slice A0_2 l0_2.length c0_2, .slice A0_3 l0_3.length c0_3, .slice A0_4 l0_4.length c0_4, .int .i64 a0_5, .int .i64 a0_6, .int .i64 a0_7, .int .i64 a0_8, .int .i64 a0_9, .int .i64 a0_10]) (ok := (fun k_ => ((P0_2_ k_ ∨ P0_3_ k_ ∨ P0_4_ k_) ∨ w.heap.size ≤ k_) ∧ k_ ≠ gb662)) (okp := (fun k_ => ((P0_2_ k_ ∨ P0_3_ k_ ∨ P0_4_ k_) ∨ w.heap.size ≤ k_) ∧ k_ ≠ gb662)) ?hr ?hp (fun _ hk => hk) ((show ∀ k_, w147.heap.size ≤ k_ → (fun k_ => ((P0_2_ k_ ∨ P0_3_ k_ ∨ P0_4_ k_) ∨ w.heap.size ≤ k_) ∧ k_ ≠ gb662) k_ from fun k_ hk => ⟨(.inr (Nat.le_trans (below_size (bq1_ HB.out GE662.out)) hk)), mvF_ BK662.out hk⟩) _ (Nat.le_refl _)) (Below.refl _ _) (Nat.le_refl _) (by simp) ?_; (case hd => rfl); (case hg => rfl); (case hr => first | (go_simp; done) | (go_simp; rfl)); (case hp => exact (Reps.front (show Kd.FK k30 _ _ (⟨a0_0, a0_1, l0_2, (⟨l0_3, l0_4⟩ : S26), (⟨a0_5, a0_6, a0_7, a0_8⟩ : S28), a0_9, a0_10⟩ : S30) [.int .i64 a0_0, .int .i64 a0_1, .slice A0_2 l0_2.length c0_2, .slice A0_3 l0_3.length c0_3, .slice A0_4 l0_4.length c0_4, .int .i64 a0_5, .int .i64 a0_6, .int .i64 a0_7, .int .i64 a0_8, .int .i64 a0_9, .int .i64 a0_10] from (k30_mkF _ _ (⟨a0_0, a0_1, l0_2, (⟨l0_3, l0_4⟩ : S26), (⟨a0_5, a0_6, a0_7, a0_8⟩ : S28), a0_9, a0_10⟩ : S30) (Kd.V_reads' (Kd.V_mono (ok' := (fun k_ => ((P0_2_ k_ ∨ P0_3_ k_ ∨ P0_4_ k_) ∨ w.heap.size ≤ k_) ∧ k_ ≠ gb662)) (HO0_2.out) (fun k_ hk => ⟨hk.1, hk.2⟩))).2.1 (Kd.V_F (Kd.V_mono (ok' := (fun k_ => ((P0_2_ k_ ∨ P0_3_ k_ ∨ P0_4_ k_) ∨ w.heap.size ≤ k_) ∧ k_ ≠ gb662)) (HO0_2.out) (fun k_ hk => ⟨hk.1, hk.2⟩))) (Kd.V_reads' (Kd.V_mono (ok' := (fun k_ => ((P0_2_ k_ ∨ P0_3_ k_ ∨ P0_4_ k_) ∨ w.heap.size ≤ k_) ∧ k_ ≠ gb662)) (HO0_3.out) (fun k_ hk => ⟨hk.1, hk.2⟩))).2.1 (Kd.V_F (Kd.V_mono (ok' := (fun k_ => ((P0_2_ k_ ∨ P0_3_ k_ ∨ P0_4_ k_) ∨ w.heap.size ≤ k_) ∧ k_ ≠ gb662)) (HO0_3.out) (fun k_ hk => ⟨hk.1, hk.2⟩))) (Kd.V_reads' (Kd.V_mono (ok' := (fun k_ => ((P0_2_ k_ ∨ P0_3_ k_ ∨ P0_4_ k_) ∨ w.heap.size ≤ k_) ∧ k_ ≠ gb662)) (HO0_4.out) (fun k_ hk => ⟨hk.1, hk.2⟩))).2.1 (Kd.V_F (Kd.V_mono (ok' := (fun k_ => ((P0_2_ k_ ∨ P0_3_ k_ ∨ P0_4_ k_) ∨ w.heap.size ≤ k_) ∧ k_ ≠ gb662)) (HO0_4.out) (fun k_ hk => ⟨hk.1, hk.2⟩))))) rfl (Reps.none _ _) rfl)); intro v665 w149 ho150 hb hg_ hnew_; clear hg_ hnew_; (first | rw [← Ny664.out] at ho150 | (simp only [Int.reduceToNat] at ho150; rw [← Ny664.out] at ho150)); have HO666 := Aside0.mk (Kd.N_lower ho150 (below_size (bq1_ HB.out GE662.out))); replace HO0_2 := mbV_ HO0_2.out hb; replace HO0_3 := mbV_ HO0_3.out hb; replace HO0_4 := mbV_ HO0_4.out hb; replace BK662 := mvB_ BK662.out hb; replace HB := Aside0.mk (below_step (bq1_ HB.out GE662.out) hb); clear hb ho150; obtain ⟨Ao151, co151, eo151⟩ := Kd.N_slice HO666.out; subst eo151) | ((with_reducible refine gate_callee (f := 9) rfl ?_); refine gL_ (some 14) Try.func9 #[.slice Ao151 y664.length co151, .int .i64 1] ?_; (with_reducible refine (fullerref21_Cmds.calls k _ _ y664 1 false _ ?side1 ?side2 A3.out).mono ?_); (case side1 => exact mvC_ ((Kd.N_reads' HO666.out).2.2)); (case side2 => exact (Kd.N_reads' HO666.out).2.1); rintro e w152 ⟨rfl, hb⟩; refine ⟨_, rfl, ?_⟩; replace HO666 := mbN_ HO666.out hb; replace BK662 := mvB_ BK662.out hb; replace HB := Aside0.mk (below_step (bq1_ HB.out GE662.out) hb); (try clear hb)))
  go_ret
  exact ⟨by first | rfl | (simp <;> rfl) | (simp [*] <;> rfl), bq1_ HB.out GE662.out⟩
def fullerlaw23_ScriptSizes.Pure : Prop := ∀ (a0_0 : Int) (a0_1 : Int) (l0_2 : List (S48)) (l0_3 : List Int) (l0_4 : List Int) (a0_5 : Int) (a0_6 : Int) (a0_7 : Int) (a0_8 : Int) (a0_9 : Int) (a0_10 : Int), ((Lit.int .i64 a0_0).wf = true) → ((Lit.int .i64 a0_1).wf = true) → (l0_2.length * 56 ≤ 140737488351232 ∧ ∀ x_ ∈ l0_2, OK48 x_) → (l0_3.length * 8 ≤ 140737488351232 ∧ ∀ x_ ∈ l0_3, (Lit.int .i64 x_).wf = true) → (l0_4.length * 8 ≤ 140737488351232 ∧ ∀ x_ ∈ l0_4, (Lit.int .i64 x_).wf = true) → ((Lit.int .i64 a0_5).wf = true) → ((Lit.int .i64 a0_6).wf = true) → ((Lit.int .i64 a0_7).wf = true) → ((Lit.int .i64 a0_8).wf = true) → ((Lit.int .i64 a0_9).wf = true) → ((Lit.int .i64 a0_10).wf = true) → ∃ k, fullerlaw23_ScriptSizes.f k a0_0 a0_1 l0_2 l0_3 l0_4 a0_5 a0_6 a0_7 a0_8 a0_9 a0_10 = some true
theorem fullerlaw23_ScriptSizes.walk (P : fullerlaw23_ScriptSizes.Pure) (a0_0 : Int) (a0_1 : Int) (P0_2_ : Nat → Prop) (A0_2 : Option Addr) (c0_2 : Nat) (l0_2 : List (S48)) (P0_3_ : Nat → Prop) (A0_3 : Option Addr) (c0_3 : Nat) (l0_3 : List Int) (P0_4_ : Nat → Prop) (A0_4 : Option Addr) (c0_4 : Nat) (l0_4 : List Int) (a0_5 : Int) (a0_6 : Int) (a0_7 : Int) (a0_8 : Int) (a0_9 : Int) (a0_10 : Int) (w : World) (hr0_2 : Kd.C k48 w A0_2 l0_2.length l0_2) (hc0_2 : l0_2.length ≤ c0_2) (hr0_3 : Kd.C (Kd.int .i64) w A0_3 l0_3.length l0_3) (hc0_3 : l0_3.length ≤ c0_3) (hr0_4 : Kd.C (Kd.int .i64) w A0_4 l0_4.length l0_4) (hc0_4 : l0_4.length ≤ c0_4) (hg0_0 : (Lit.int .i64 a0_0).wf = true) (hg0_1 : (Lit.int .i64 a0_1).wf = true) (hg0_2 : l0_2.length * 56 ≤ 140737488351232 ∧ ∀ x_ ∈ l0_2, OK48 x_) (hg0_3 : l0_3.length * 8 ≤ 140737488351232 ∧ ∀ x_ ∈ l0_3, (Lit.int .i64 x_).wf = true) (hg0_4 : l0_4.length * 8 ≤ 140737488351232 ∧ ∀ x_ ∈ l0_4, (Lit.int .i64 x_).wf = true) (hg0_5 : (Lit.int .i64 a0_5).wf = true) (hg0_6 : (Lit.int .i64 a0_6).wf = true) (hg0_7 : (Lit.int .i64 a0_7).wf = true) (hg0_8 : (Lit.int .i64 a0_8).wf = true) (hg0_9 : (Lit.int .i64 a0_9).wf = true) (hg0_10 : (Lit.int .i64 a0_10).wf = true) :
  Calls Try.prog 6 #[.agg #[.int .i64 a0_0, .int .i64 a0_1, .slice A0_2 l0_2.length c0_2, .slice A0_3 l0_3.length c0_3, .slice A0_4 l0_4.length c0_4, .int .i64 a0_5, .int .i64 a0_6, .int .i64 a0_7, .int .i64 a0_8, .int .i64 a0_9, .int .i64 a0_10]] w fun e w' => e = .returned (.bool true) ∧ Below w.heap.size w w' := by
 obtain ⟨k, h⟩ := P a0_0 a0_1 l0_2 l0_3 l0_4 a0_5 a0_6 a0_7 a0_8 a0_9 a0_10 hg0_0 hg0_1 hg0_2 hg0_3 hg0_4 hg0_5 hg0_6 hg0_7 hg0_8 hg0_9 hg0_10
 refine (fullerlaw23_ScriptSizes.calls k a0_0 a0_1 (fun k_ => k_ < w.heap.size) _ _ l0_2 (fun k_ => k_ < w.heap.size) _ _ l0_3 (fun k_ => k_ < w.heap.size) _ _ l0_4 a0_5 a0_6 a0_7 a0_8 a0_9 a0_10 true w (Kd.V_mk hc0_2 (Kd.C_F k48_heap hr0_2)) (Kd.V_mk hc0_3 (Kd.C_F (Kd.heap_int .i64) hr0_3)) (Kd.V_mk hc0_4 (Kd.C_F (Kd.heap_int .i64) hr0_4)) h).mono ?_
 rintro e w' ⟨rfl, hd⟩
 exact ⟨rfl, hd⟩
end Go.Proofs.Ytjcgadfmhfhbgaa.A
