/- Lean functions that answer as the Go functions do, and the proofs that they do; no conditions. Written by this session's own driver: a scratch copy of the kit's print with the session's additions (wip/xprint). -/
import Derived.Test.YtmlbdfgodcddeaaAx0
import Derived.Test.YtmlbdfgodcddeaaAx5
import Derived.Test.YtmlbdfgodcddeaaAx11
namespace Go.Proofs.Ytmlbdfgodcddeaa.A
open Go.RowKit Go.Proofs.YtmlbdfgodcddeaaW.PrintWords Go.Proofs.YtmlbdfgodcddeaaW.PrintLast Go.Proofs.YtmlbdfgodcddeaaW.PrintMore
attribute [local go_sem] max2_int min2_int max_two min_two max_three min_three max_four min_four   -- for this text's walks alone
set_option linter.unusedVariables false
set_option linter.unusedSimpArgs false

theorem mv2_ {P Q : Prop} (h : P) (f : P → Q := by intro h_; (with_reducible repeat (first | apply Kd.R_alloc | apply Kd.R_drewN | apply Kd.R_drew)); exact h_) : Q := f h
/-! ### fullerlaw08_PackWide: function 7 -/
def fullerlaw08_PackWide.f (k : Nat) (a0 : Int) : Option (Bool) := (fullerlaw08_awake.f k).bind fun t250 => ((pack_Put.f ([] : List Int) a0 1).bind fun bt251 => ((pack_Put.f ([] : List Int) a0 2).bind fun bt255 => ((pack_Put.f ([] : List Int) a0 8).bind fun bt259 => (if bt259.2 = 0 then (if (bt259.1.length : Int) = 8 then (if bt251.2 = 0 then ((some (List.replicate 7 0 : List Int)).bind fun y263 => (if (strOfNums y263).size + (strOfNums bt251.1).size ≤ 9223372036854775807 then (if (strOfNums bt259.1).toList = ((strOfNums y263) ++ (strOfNums bt251.1)).toList then (if bt255.2 = 0 then ((some (List.replicate 6 0 : List Int)).bind fun y266 => (if (strOfNums y266).size + (strOfNums bt255.1).size ≤ 9223372036854775807 then (if (strOfNums bt259.1).toList = ((strOfNums y266) ++ (strOfNums bt255.1)).toList then (if t250 = true then (some true) else (none)) else (none)) else (none))) else (none)) else (none)) else (none))) else (if bt251.2 = 40 then (if a0 < 0 then (if bt255.2 = 0 then (none) else (if bt255.2 = 40 then (if t250 = true then (some true) else (none)) else (none))) else (if bt255.2 = 0 then ((some (List.replicate 6 0 : List Int)).bind fun y269 => (if (strOfNums y269).size + (strOfNums bt255.1).size ≤ 9223372036854775807 then (if (strOfNums bt259.1).toList = ((strOfNums y269) ++ (strOfNums bt255.1)).toList then (if t250 = true then (if a0 > 255 then (some true) else (none)) else (none)) else (none)) else (none))) else (if bt255.2 = 40 then (if t250 = true then (if a0 > 255 then (some (decide (a0 > 65535))) else (none)) else (none)) else (none)))) else (none))) else (some false)) else (some false)))))
theorem fullerlaw08_PackWide.mono : ∀ a0 k, LeO (fullerlaw08_PackWide.f k a0) (fullerlaw08_PackWide.f (k + 1) a0) := by
  intro a0 k
  unfold fullerlaw08_PackWide.f
  repeat' first
      | (with_reducible exact fullerlaw08_awake.mono _)
      | (with_reducible exact LeO.refl _)
      | (with_reducible exact LeO.none _)
      | (with_reducible refine LeO.ite ?_ ?_)
      | (with_reducible refine LeO.bind ?_ (fun _ => ?_))
      | exact fullerlaw08_awake.mono _
      | exact LeO.none _
      | refine LeO.ite ?_ ?_
      | refine LeO.bind ?_ (fun _ => ?_)
def fullerlaw08_PackWide.T7 : Bool × List (List Nat × List Nat) := (true, [([], []), ([0], [0]), ([1], [1]), ([2], [2]), ([3, 2], [2, 3]), ([2], [2]), ([5, 2], [2, 5]), ([2], [2]), ([7, 2], [2, 7]), ([6, 8, 2], [2, 6, 8]), ([4, 9, 2], [2, 4, 9]), ([2, 10], [2, 10]), ([11, 2], [11]), ([12], [12]), ([13, 12], [12, 13]), ([14, 12, 12], [12, 14]), ([15], [15]), ([16, 15], [15, 16]), ([17, 15, 15], [15, 17]), ([18], [18]), ([19, 18], [18, 19]), ([18, 20, 15], [15, 18, 20]), ([15, 21, 12], [12, 15, 21]), ([12, 22], [12, 22]), ([23, 18, 0, 1, 2, 3, 4, 5, 6, 7, 8, 9, 10, 11, 12, 13, 14, 15, 16, 17, 18, 19, 20, 21, 22, 23], [23])])
def fullerlaw08_PackWide.B7 : List Nat := [0, 1, 3, 7, 15, 7, 39, 7, 135, 487, 1023, 2047, 4095, 8191, 16383, 32767, 65535, 131071, 262143, 524287, 1048575, 2097151, 4194303, 8388607, 16777215]
theorem fullerlaw08_PackWide.tab7 : rtab .any (opsOf Try.f7 7) = fullerlaw08_PackWide.T7 := by kernel_rfl
theorem fullerlaw08_PackWide.bits7 : waitsOk fullerlaw08_PackWide.T7.2 fullerlaw08_PackWide.B7 = true := by kernel_rfl
def fullerlaw08_PackWide.T8 : Bool × List (List Nat × List Nat) := (true, [([], []), ([0], [0]), ([1], [1]), ([2], [2]), ([3, 2], [2, 3]), ([2], [2]), ([5, 2], [2, 5]), ([2], [2]), ([7, 2], [2, 7]), ([6, 8, 2], [2, 6, 8]), ([4, 9, 2], [2, 4, 9]), ([2, 10], [2, 10]), ([11, 2], [11]), ([12], [12]), ([13, 12], [12, 13]), ([14, 12, 12], [12, 14]), ([15], [15]), ([16, 15], [15, 16]), ([17, 15, 15], [15, 17]), ([18], [18]), ([19, 18], [18, 19]), ([18, 20, 15], [15, 18, 20]), ([15, 21, 12], [12, 15, 21]), ([12, 22], [12, 22]), ([23, 18, 0, 1, 2, 3, 4, 5, 6, 7, 8, 9, 10, 11, 12, 13, 14, 15, 16, 17, 18, 19, 20, 21, 22, 23], [23])])
def fullerlaw08_PackWide.B8 : List Nat := [0, 1, 3, 7, 15, 7, 39, 7, 135, 487, 1023, 2047, 4095, 8191, 16383, 32767, 65535, 131071, 262143, 524287, 1048575, 2097151, 4194303, 8388607, 16777215]
theorem fullerlaw08_PackWide.tab8 : rtab .any (opsOf Try.f7 8) = fullerlaw08_PackWide.T8 := by kernel_rfl
theorem fullerlaw08_PackWide.bits8 : waitsOk fullerlaw08_PackWide.T8.2 fullerlaw08_PackWide.B8 = true := by kernel_rfl
theorem sA_ {α : Type _} (l : List α) (i : Nat) (a : α) : l.toArray.setIfInBounds i a = (l.set i a).toArray := List.setIfInBounds_toArray ..
theorem sB_ {α : Type _} (x : α) (l : List α) (a : α) : (x :: l).set 0 a = a :: l := rfl
theorem sC_ {α : Type _} (x : α) (l : List α) (i : Nat) (a : α) : (x :: l).set (i + 1) a = x :: l.set i a := rfl
theorem bq_ {P Q : Prop} (h : P) (f : P → Q := by intro h_; repeat (first | (with_reducible first | exact h_ | apply below_alloc | apply pw_below_drewN | apply below_drew1) | exact h_)) : Q := f h
def L0_ : Array Bool := #[false, false, false, false, false, false, false, false, false, false, false, false, false, false, false, false, false, false, false, false, false, false, false, false, false]
def L1_ : Array Bool := #[true, false, false, false, false, false, false, false, false, false, false, false, false, false, false, false, false, false, false, false, false, false, false, false, false]
def L2_ : Array Bool := #[true, true, false, false, false, false, false, false, false, false, false, false, false, false, false, false, false, false, false, false, false, false, false, false, false]
def L3_ : Array Bool := #[true, true, true, false, false, false, false, false, false, false, false, false, false, false, false, false, false, false, false, false, false, false, false, false, false]
def L4_ : Array Bool := #[true, true, true, true, false, false, false, false, false, false, false, false, false, false, false, false, false, false, false, false, false, false, false, false, false]
def L5_ : Array Bool := #[true, true, true, true, false, false, false, true, false, false, false, false, false, false, false, false, false, false, false, false, false, false, false, false, false]
def L6_ : Array Bool := #[true, true, true, true, true, true, true, true, true, true, false, false, false, false, false, false, false, false, false, false, false, false, false, false, false]
def L7_ : Array Bool := #[true, true, true, true, true, true, true, true, false, false, false, false, false, false, false, false, false, false, false, false, false, false, false, false, false]
def L8_ : Array Bool := #[true, true, true, true, true, true, false, true, true, false, false, false, false, false, false, false, false, false, false, false, false, false, false, false, false]
def L9_ : Array Bool := #[true, true, true, true, false, true, true, true, true, true, false, false, false, false, false, false, false, false, false, false, false, false, false, false, false]
def L10_ : Array Bool := #[true, true, true, true, true, true, false, true, false, false, false, false, false, false, false, false, false, false, false, false, false, false, false, false, false]
def L11_ : Array Bool := #[true, true, true, true, true, false, false, true, true, false, false, false, false, false, false, false, false, false, false, false, false, false, false, false, false]
def L12_ : Array Bool := #[true, true, true, true, false, true, true, true, false, false, false, false, false, false, false, false, false, false, false, false, false, false, false, false, false]
def L13_ : Array Bool := #[true, true, true, true, false, true, false, true, true, false, false, false, false, false, false, false, false, false, false, false, false, false, false, false, false]
def L14_ : Array Bool := #[true, true, true, true, true, false, false, true, false, false, false, false, false, false, false, false, false, false, false, false, false, false, false, false, false]
def L15_ : Array Bool := #[true, true, true, true, false, true, false, true, false, false, false, false, false, false, false, false, false, false, false, false, false, false, false, false, false]
def L16_ : Array Bool := #[true, true, true, true, false, false, false, true, true, false, false, false, false, false, false, false, false, false, false, false, false, false, false, false, false]
def L17_ : Array Bool := #[true, true, true, true, false, true, true, true, true, false, false, false, false, false, false, false, false, false, false, false, false, false, false, false, false]
def L18_ : Array Bool := #[true, true, true, true, true, true, true, true, true, false, false, false, false, false, false, false, false, false, false, false, false, false, false, false, false]
def L19_ : Array Bool := #[true, true, true, true, true, true, true, true, true, true, true, false, false, false, false, false, false, false, false, false, false, false, false, false, false]
def L20_ : Array Bool := #[true, true, true, true, true, true, true, true, true, true, true, true, false, false, false, false, false, false, false, false, false, false, false, false, false]
def L21_ : Array Bool := #[true, true, true, true, true, true, true, true, true, true, true, true, true, false, false, false, false, false, false, false, false, false, false, false, false]
def L22_ : Array Bool := #[true, true, true, true, true, true, true, true, true, true, true, true, true, true, false, false, false, false, false, false, false, false, false, false, false]
def L23_ : Array Bool := #[true, true, true, true, true, true, true, true, true, true, true, true, true, true, true, false, false, false, false, false, false, false, false, false, false]
def L24_ : Array Bool := #[true, true, true, true, true, true, true, true, true, true, true, true, true, true, true, true, false, false, false, false, false, false, false, false, false]
def L25_ : Array Bool := #[true, true, true, true, true, true, true, true, true, true, true, true, true, true, true, true, true, false, false, false, false, false, false, false, false]
def L26_ : Array Bool := #[true, true, true, true, true, true, true, true, true, true, true, true, true, true, true, true, true, true, false, false, false, false, false, false, false]
def L27_ : Array Bool := #[true, true, true, true, true, true, true, true, true, true, true, true, true, true, true, true, true, true, true, false, false, false, false, false, false]
def L28_ : Array Bool := #[true, true, true, true, true, true, true, true, true, true, true, true, true, true, true, true, true, true, true, true, false, false, false, false, false]
def L29_ : Array Bool := #[true, true, true, true, true, true, true, true, true, true, true, true, true, true, true, true, true, true, true, true, true, false, false, false, false]
def L30_ : Array Bool := #[true, true, true, true, true, true, true, true, true, true, true, true, true, true, true, true, true, true, true, true, true, true, false, false, false]
def L31_ : Array Bool := #[true, true, true, true, true, true, true, true, true, true, true, true, true, true, true, true, true, true, true, true, true, true, true, false, false]
def L32_ : Array Bool := #[true, true, true, true, true, true, true, true, true, true, true, true, true, true, true, true, true, true, true, true, true, true, true, true, false]
def L33_ : Array Bool := #[true, true, true, true, true, true, true, true, true, true, true, true, true, true, true, true, true, true, true, true, true, true, true, true, true]
def L34_ : Array Bool := #[true, true, true, true, true, false, false, false, false, false, false, false, false, false, false, false, false, false, false, false, false, false, false, false, false]
def L35_ : Array Bool := #[true, true, true, true, true, true, false, false, false, false, false, false, false, false, false, false, false, false, false, false, false, false, false, false, false]
def L36_ : Array Bool := #[true, true, true, true, true, true, true, false, false, false, false, false, false, false, false, false, false, false, false, false, false, false, false, false, false]
set_option maxHeartbeats 8000000 in
set_option maxRecDepth 100000 in
theorem fullerlaw08_PackWide.calls (k : Nat) (a0 : Int) (r : Bool) (w : World) (h : fullerlaw08_PackWide.f k a0 = some r) :
  Calls Try.prog 7 #[.int .i64 a0] w fun e w' => e = .returned (.bool r) ∧ Below w.heap.size w w' := by
 have HB := Aside0.mk (Below.refl w.heap.size w)
 have H : ((fullerlaw08_awake.f k).bind fun t250 => ((pack_Put.f ([] : List Int) a0 1).bind fun bt251 => ((pack_Put.f ([] : List Int) a0 2).bind fun bt255 => ((pack_Put.f ([] : List Int) a0 8).bind fun bt259 => (if bt259.2 = 0 then (if (bt259.1.length : Int) = 8 then (if bt251.2 = 0 then ((some (List.replicate 7 0 : List Int)).bind fun y263 => (if (strOfNums y263).size + (strOfNums bt251.1).size ≤ 9223372036854775807 then (if (strOfNums bt259.1).toList = ((strOfNums y263) ++ (strOfNums bt251.1)).toList then (if bt255.2 = 0 then ((some (List.replicate 6 0 : List Int)).bind fun y266 => (if (strOfNums y266).size + (strOfNums bt255.1).size ≤ 9223372036854775807 then (if (strOfNums bt259.1).toList = ((strOfNums y266) ++ (strOfNums bt255.1)).toList then (if t250 = true then (some true) else (none)) else (none)) else (none))) else (none)) else (none)) else (none))) else (if bt251.2 = 40 then (if a0 < 0 then (if bt255.2 = 0 then (none) else (if bt255.2 = 40 then (if t250 = true then (some true) else (none)) else (none))) else (if bt255.2 = 0 then ((some (List.replicate 6 0 : List Int)).bind fun y269 => (if (strOfNums y269).size + (strOfNums bt255.1).size ≤ 9223372036854775807 then (if (strOfNums bt259.1).toList = ((strOfNums y269) ++ (strOfNums bt255.1)).toList then (if t250 = true then (if a0 > 255 then (some true) else (none)) else (none)) else (none)) else (none))) else (if bt255.2 = 40 then (if t250 = true then (if a0 > 255 then (some (decide (a0 > 65535))) else (none)) else (none)) else (none)))) else (none))) else (some false)) else (some false)))))) = some r := h
 clear h
 replace H := Option.bind_eq_some_iff.mp H
 obtain ⟨t250, A20, H⟩ := H
 replace H : ((pack_Put.f ([] : List Int) a0 1).bind fun bt251 => ((pack_Put.f ([] : List Int) a0 2).bind fun bt255 => ((pack_Put.f ([] : List Int) a0 8).bind fun bt259 => (if bt259.2 = 0 then (if (bt259.1.length : Int) = 8 then (if bt251.2 = 0 then ((some (List.replicate 7 0 : List Int)).bind fun y263 => (if (strOfNums y263).size + (strOfNums bt251.1).size ≤ 9223372036854775807 then (if (strOfNums bt259.1).toList = ((strOfNums y263) ++ (strOfNums bt251.1)).toList then (if bt255.2 = 0 then ((some (List.replicate 6 0 : List Int)).bind fun y266 => (if (strOfNums y266).size + (strOfNums bt255.1).size ≤ 9223372036854775807 then (if (strOfNums bt259.1).toList = ((strOfNums y266) ++ (strOfNums bt255.1)).toList then (if t250 = true then (some true) else (none)) else (none)) else (none))) else (none)) else (none)) else (none))) else (if bt251.2 = 40 then (if a0 < 0 then (if bt255.2 = 0 then (none) else (if bt255.2 = 40 then (if t250 = true then (some true) else (none)) else (none))) else (if bt255.2 = 0 then ((some (List.replicate 6 0 : List Int)).bind fun y269 => (if (strOfNums y269).size + (strOfNums bt255.1).size ≤ 9223372036854775807 then (if (strOfNums bt259.1).toList = ((strOfNums y269) ++ (strOfNums bt255.1)).toList then (if t250 = true then (if a0 > 255 then (some true) else (none)) else (none)) else (none)) else (none))) else (if bt255.2 = 40 then (if t250 = true then (if a0 > 255 then (some (decide (a0 > 65535))) else (none)) else (none)) else (none)))) else (none))) else (some false)) else (some false))))) = some r := H
 have A2 := Aside0.mk A20
 clear A20
 replace H := Option.bind_eq_some_iff.mp H
 obtain ⟨⟨t251, t252⟩, A30, H⟩ := H
 replace H : ((pack_Put.f ([] : List Int) a0 2).bind fun bt255 => ((pack_Put.f ([] : List Int) a0 8).bind fun bt259 => (if bt259.2 = 0 then (if (bt259.1.length : Int) = 8 then (if t252 = 0 then ((some (List.replicate 7 0 : List Int)).bind fun y263 => (if (strOfNums y263).size + (strOfNums t251).size ≤ 9223372036854775807 then (if (strOfNums bt259.1).toList = ((strOfNums y263) ++ (strOfNums t251)).toList then (if bt255.2 = 0 then ((some (List.replicate 6 0 : List Int)).bind fun y266 => (if (strOfNums y266).size + (strOfNums bt255.1).size ≤ 9223372036854775807 then (if (strOfNums bt259.1).toList = ((strOfNums y266) ++ (strOfNums bt255.1)).toList then (if t250 = true then (some true) else (none)) else (none)) else (none))) else (none)) else (none)) else (none))) else (if t252 = 40 then (if a0 < 0 then (if bt255.2 = 0 then (none) else (if bt255.2 = 40 then (if t250 = true then (some true) else (none)) else (none))) else (if bt255.2 = 0 then ((some (List.replicate 6 0 : List Int)).bind fun y269 => (if (strOfNums y269).size + (strOfNums bt255.1).size ≤ 9223372036854775807 then (if (strOfNums bt259.1).toList = ((strOfNums y269) ++ (strOfNums bt255.1)).toList then (if t250 = true then (if a0 > 255 then (some true) else (none)) else (none)) else (none)) else (none))) else (if bt255.2 = 40 then (if t250 = true then (if a0 > 255 then (some (decide (a0 > 65535))) else (none)) else (none)) else (none)))) else (none))) else (some false)) else (some false)))) = some r := H
 have A3 := Aside0.mk A30
 clear A30
 replace H := Option.bind_eq_some_iff.mp H
 obtain ⟨⟨t255, t256⟩, A40, H⟩ := H
 replace H : ((pack_Put.f ([] : List Int) a0 8).bind fun bt259 => (if bt259.2 = 0 then (if (bt259.1.length : Int) = 8 then (if t252 = 0 then ((some (List.replicate 7 0 : List Int)).bind fun y263 => (if (strOfNums y263).size + (strOfNums t251).size ≤ 9223372036854775807 then (if (strOfNums bt259.1).toList = ((strOfNums y263) ++ (strOfNums t251)).toList then (if t256 = 0 then ((some (List.replicate 6 0 : List Int)).bind fun y266 => (if (strOfNums y266).size + (strOfNums t255).size ≤ 9223372036854775807 then (if (strOfNums bt259.1).toList = ((strOfNums y266) ++ (strOfNums t255)).toList then (if t250 = true then (some true) else (none)) else (none)) else (none))) else (none)) else (none)) else (none))) else (if t252 = 40 then (if a0 < 0 then (if t256 = 0 then (none) else (if t256 = 40 then (if t250 = true then (some true) else (none)) else (none))) else (if t256 = 0 then ((some (List.replicate 6 0 : List Int)).bind fun y269 => (if (strOfNums y269).size + (strOfNums t255).size ≤ 9223372036854775807 then (if (strOfNums bt259.1).toList = ((strOfNums y269) ++ (strOfNums t255)).toList then (if t250 = true then (if a0 > 255 then (some true) else (none)) else (none)) else (none)) else (none))) else (if t256 = 40 then (if t250 = true then (if a0 > 255 then (some (decide (a0 > 65535))) else (none)) else (none)) else (none)))) else (none))) else (some false)) else (some false))) = some r := H
 have A4 := Aside0.mk A40
 clear A40
 replace H := Option.bind_eq_some_iff.mp H
 obtain ⟨⟨t259, t260⟩, A50, H⟩ := H
 replace H : (if t260 = 0 then (if (t259.length : Int) = 8 then (if t252 = 0 then ((some (List.replicate 7 0 : List Int)).bind fun y263 => (if (strOfNums y263).size + (strOfNums t251).size ≤ 9223372036854775807 then (if (strOfNums t259).toList = ((strOfNums y263) ++ (strOfNums t251)).toList then (if t256 = 0 then ((some (List.replicate 6 0 : List Int)).bind fun y266 => (if (strOfNums y266).size + (strOfNums t255).size ≤ 9223372036854775807 then (if (strOfNums t259).toList = ((strOfNums y266) ++ (strOfNums t255)).toList then (if t250 = true then (some true) else (none)) else (none)) else (none))) else (none)) else (none)) else (none))) else (if t252 = 40 then (if a0 < 0 then (if t256 = 0 then (none) else (if t256 = 40 then (if t250 = true then (some true) else (none)) else (none))) else (if t256 = 0 then ((some (List.replicate 6 0 : List Int)).bind fun y269 => (if (strOfNums y269).size + (strOfNums t255).size ≤ 9223372036854775807 then (if (strOfNums t259).toList = ((strOfNums y269) ++ (strOfNums t255)).toList then (if t250 = true then (if a0 > 255 then (some true) else (none)) else (none)) else (none)) else (none))) else (if t256 = 40 then (if t250 = true then (if a0 > 255 then (some (decide (a0 > 65535))) else (none)) else (none)) else (none)))) else (none))) else (some false)) else (some false)) = some r := H
 have A5 := Aside0.mk A50
 clear A50
 by_cases c6 : t260 = 0
 ·rw [if_pos c6] at H
  have c6b0 : (t260 == 0) = true := beq_iff_eq.mpr c6
  have c6b1 : (t260 != 0) = false := bne_eq_false_iff_eq.mpr c6
  clear c6
  by_cases c7 : (t259.length : Int) = 8
  ·rw [if_pos c7] at H
   have c7b0 : ((t259.length : Int) == 8) = true := beq_iff_eq.mpr c7
   have c7b1 : ((t259.length : Int) != 8) = false := bne_eq_false_iff_eq.mpr c7
   clear c7
   by_cases c8 : t252 = 0
   ·rw [if_pos c8] at H
    have c8b0 : (t252 == 0) = true := beq_iff_eq.mpr c8
    have c8b1 : (t252 != 0) = false := bne_eq_false_iff_eq.mpr c8
    clear c8
    obtain ⟨y263, hy263⟩ : ∃ y_ : List Int, y_ = (List.replicate 7 0) := ⟨_, rfl⟩
    replace H : (if (strOfNums y263).size + (strOfNums t251).size ≤ 9223372036854775807 then (if (strOfNums t259).toList = ((strOfNums y263) ++ (strOfNums t251)).toList then (if t256 = 0 then ((some (List.replicate 6 0 : List Int)).bind fun y266 => (if (strOfNums y266).size + (strOfNums t255).size ≤ 9223372036854775807 then (if (strOfNums t259).toList = ((strOfNums y266) ++ (strOfNums t255)).toList then (if t250 = true then (some true) else (none)) else (none)) else (none))) else (none)) else (none)) else (none)) = some r := by first | (rw [hy263]; with_reducible exact H) | (have H2_ := (Option.bind_some _ _).symm.trans H; rw [hy263]; with_reducible exact H2_) | (have H2_ := (Option.bind_some _ _).symm.trans H; with_reducible exact H2_) | with_reducible exact H | (rw [hy263]; exact H) | exact H
    have Ny263 := Aside0.mk hy263
    clear hy263
    by_cases c9 : (strOfNums y263).size + (strOfNums t251).size ≤ 9223372036854775807
    ·rw [if_pos c9] at H
     have c9b0 := eq_true c9
     have c9b1 : decide ((strOfNums y263).size + (strOfNums t251).size ≤ 9223372036854775807) = true := decide_eq_true c9
     try have c9b2 : (9223372036854775807 < (strOfNums y263).size + (strOfNums t251).size) = False := eq_false (Nat.not_lt.2 c9)
     by_cases c10 : (strOfNums t259).toList = ((strOfNums y263) ++ (strOfNums t251)).toList
     ·rw [if_pos c10] at H
      have c10b0 : ((strOfNums t259).toList == ((strOfNums y263) ++ (strOfNums t251)).toList) = true := beq_iff_eq.mpr c10
      have c10b1 : ((strOfNums t259).toList != ((strOfNums y263) ++ (strOfNums t251)).toList) = false := bne_eq_false_iff_eq.mpr c10
      clear c10
      by_cases c11 : t256 = 0
      ·rw [if_pos c11] at H
       have c11b0 : (t256 == 0) = true := beq_iff_eq.mpr c11
       have c11b1 : (t256 != 0) = false := bne_eq_false_iff_eq.mpr c11
       clear c11
       obtain ⟨y266, hy266⟩ : ∃ y_ : List Int, y_ = (List.replicate 6 0) := ⟨_, rfl⟩
       replace H : (if (strOfNums y266).size + (strOfNums t255).size ≤ 9223372036854775807 then (if (strOfNums t259).toList = ((strOfNums y266) ++ (strOfNums t255)).toList then (if t250 = true then (some true) else (none)) else (none)) else (none)) = some r := by first | (rw [hy266]; with_reducible exact H) | (have H2_ := (Option.bind_some _ _).symm.trans H; rw [hy266]; with_reducible exact H2_) | (have H2_ := (Option.bind_some _ _).symm.trans H; with_reducible exact H2_) | with_reducible exact H | (rw [hy266]; exact H) | exact H
       have Ny266 := Aside0.mk hy266
       clear hy266
       by_cases c12 : (strOfNums y266).size + (strOfNums t255).size ≤ 9223372036854775807
       ·rw [if_pos c12] at H
        have c12b0 := eq_true c12
        have c12b1 : decide ((strOfNums y266).size + (strOfNums t255).size ≤ 9223372036854775807) = true := decide_eq_true c12
        try have c12b2 : (9223372036854775807 < (strOfNums y266).size + (strOfNums t255).size) = False := eq_false (Nat.not_lt.2 c12)
        by_cases c13 : (strOfNums t259).toList = ((strOfNums y266) ++ (strOfNums t255)).toList
        ·rw [if_pos c13] at H
         have c13b0 : ((strOfNums t259).toList == ((strOfNums y266) ++ (strOfNums t255)).toList) = true := beq_iff_eq.mpr c13
         have c13b1 : ((strOfNums t259).toList != ((strOfNums y266) ++ (strOfNums t255)).toList) = false := bne_eq_false_iff_eq.mpr c13
         clear c13
         by_cases c14 : t250 = true
         ·subst c14
          have H1 : (some true) = some r := by rw [if_pos rfl] at H; exact H
          clear H
          have H := H1
          clear H1
          obtain rfl := Option.some.inj H
          go_enter Try.func7, Try.ntmps7
          try go_wp2_with (first | ((with_reducible refine gate_callee (f := 8) rfl ?_); refine goesL_ (some 12) rfl rfl Try.func8 (by kernel_rfl) rfl #[] rfl (by (try simp only [List.map_toArray, List.map_cons, List.map_nil]); first | done | rfl) ?_; (with_reducible refine (fullerlaw08_awake.calls k  true _ A2.out).mono ?_); rintro e w15 ⟨rfl, hb⟩; refine ⟨_, rfl, ?_⟩; have n0_ := Aside0.mk (below_step (bq_ HB.out) hb); clear HB; have HB := n0_; clear n0_; (try clear hb)) | ((with_reducible refine gate_callee (f := 9) rfl ?_); refine goesL_ (some 15) rfl rfl Try.func9 (by kernel_rfl) rfl #[.slice none 0 0, .int .i64 a0, .int .i64 1] rfl (by (try simp only [List.map_toArray, List.map_cons, List.map_nil]); first | done | rfl) ?_; (refine (pack_Put.calls _ _ ([] : List Int) a0 1 t251 t252 _ ?side1 ?side2 A3.out).mono ?_); (case side1 => exact Kd.C_nil _ _); (case side2 => exact Nat.le_refl _); rintro e w16 ⟨v253, rfl, ho0, hb⟩; refine ⟨_, rfl, ?_⟩; have n0_ := Aside0.mk (Kd.R_lower ho0 (below_size (bq_ HB.out))); have n1_ := Aside0.mk (below_step (bq_ HB.out) hb); clear HB; have HO254 := n0_; have HB := n1_; clear n0_ n1_; (try clear hb); (try clear ho0)) | ((with_reducible refine gate_callee (f := 9) rfl ?_); refine goesL_ (some 20) rfl rfl Try.func9 (by kernel_rfl) rfl #[.slice none 0 0, .int .i64 a0, .int .i64 2] rfl (by (try simp only [List.map_toArray, List.map_cons, List.map_nil]); first | done | rfl) ?_; (refine (pack_Put.calls _ _ ([] : List Int) a0 2 t255 t256 _ ?side1 ?side2 A4.out).mono ?_); (case side1 => exact Kd.C_nil _ _); (case side2 => exact Nat.le_refl _); rintro e w17 ⟨v257, rfl, ho0, hb⟩; refine ⟨_, rfl, ?_⟩; have n0_ := Aside0.mk (Kd.R_elder' (mv2_ HO254.out) (Kd.R_base ho0) hb); have n1_ := Aside0.mk (Kd.R_lower (Kd.R_new' ho0 (Kd.R_lt (mv2_ HO254.out))) (below_size (bq_ HB.out))); have n2_ := Aside0.mk (below_step (bq_ HB.out) hb); clear HO254; clear HB; have HO254 := n0_; have HO258 := n1_; have HB := n2_; clear n0_ n1_ n2_; (try clear hb); (try clear ho0)) | ((with_reducible refine gate_callee (f := 9) rfl ?_); refine goesL_ (some 25) rfl rfl Try.func9 (by kernel_rfl) rfl #[.slice none 0 0, .int .i64 a0, .int .i64 8] rfl (by (try simp only [List.map_toArray, List.map_cons, List.map_nil]); first | done | rfl) ?_; (refine (pack_Put.calls _ _ ([] : List Int) a0 8 t259 t260 _ ?side1 ?side2 A5.out).mono ?_); (case side1 => exact Kd.C_nil _ _); (case side2 => exact Nat.le_refl _); rintro e w18 ⟨v261, rfl, ho0, hb⟩; refine ⟨_, rfl, ?_⟩; have n0_ := Aside0.mk (Kd.R_elder' (mv2_ HO254.out) (Kd.R_base ho0) hb); have n1_ := Aside0.mk (Kd.R_elder' (mv2_ HO258.out) (Kd.R_base ho0) hb); have n2_ := Aside0.mk (Kd.R_lower (Kd.R_new' (Kd.R_new' ho0 (Kd.R_lt (mv2_ HO254.out))) (Kd.R_lt (mv2_ HO258.out))) (below_size (bq_ HB.out))); have n3_ := Aside0.mk (below_step (bq_ HB.out) hb); clear HO254; clear HO258; clear HB; have HO254 := n0_; have HO258 := n1_; have HO262 := n2_; have HB := n3_; clear n0_ n1_ n2_ n3_; (try clear hb); (try clear ho0); obtain ⟨Ao19, co19, eo19⟩ := Kd.R_slice HO262.out; subst eo19))
          have n0_ := Aside0.mk (Kd.R_drew HO254.out)
          have n1_ := Aside0.mk (Kd.R_drew HO258.out)
          have n2_ := Aside0.mk (Kd.R_drew HO262.out)
          have n3_ := Aside0.mk (below_drew1 HB.out)
          clear HO254 HO258 HO262 HB
          have HO254 := n0_
          have HO258 := n1_
          have HO262 := n2_
          have HB := n3_
          clear n0_ n1_ n2_ n3_
          refine start_ (n := 25) (S := fun w' => True) (ds := []) L0_ (by kernel_rfl) rfl rfl trivial (fun hHeld => ?_); refine with_tabW fullerlaw08_PackWide.tab7 fullerlaw08_PackWide.bits7 (fun HT_ HW_ => ?_)
          generalize w18.drew = w20 at HO254 HO258 HO262 HB hHeld ⊢
          refine pure_ (i := 0) (N := some 35) (v := ?_) (a' := ?_) L1_ rfl rfl (any_of HT_.out (by kernel_rfl)) (fun _ _ _ h => h) (Or.inl ⟨by rfl, ?_⟩) ?_ ?_
          rotate_left
          ·intro w'
           go_simp
           with_reducible rfl
          rotate_left
          ·simp only [Act.put, sA_, sB_, sC_, i64_w]
           rfl
          refine pure_ (i := 1) (N := some 36) (v := ?_) (a' := ?_) L2_ rfl rfl (any_of HT_.out (by kernel_rfl)) (fun _ _ _ h => h) (Or.inl ⟨by rfl, ?_⟩) ?_ ?_
          rotate_left
          ·intro w'
           go_simp
           with_reducible rfl
          rotate_left
          ·simp only [Act.put, sA_, sB_, sC_, i64_w]
           rfl
          refine pure_ (i := 2) (N := some 37) (v := ?_) (a' := ?_) L3_ rfl rfl (any_of HT_.out (by kernel_rfl)) (fun _ _ _ h => h) (Or.inl ⟨by rfl, ?_⟩) ?_ ?_
          rotate_left
          ·intro w'
           go_simp
           with_reducible rfl
          rotate_left
          ·simp only [Act.put, sA_, sB_, sC_, i64_w]
           rfl
          refine pure_ (i := 3) (N := some 38) (v := ?_) (a' := ?_) L4_ rfl rfl (any_of HT_.out (by kernel_rfl)) (fun _ _ _ h => h) (Or.inl ⟨by rfl, ?_⟩) ?_ ?_
          rotate_left
          ·intro w'
           go_simp
           with_reducible rfl
          rotate_left
          ·simp only [Act.put, sA_, sB_, sC_, i64_w]
           rfl
          refine pure_ (i := 7) (N := some 42) (v := ?_) (a' := ?_) L5_ rfl rfl (any_of HT_.out (by kernel_rfl)) (fun _ _ _ h => h) (Or.inl ⟨by rfl, ?_⟩) ?_ ?_
          rotate_left
          ·intro w'
           go_simp
           with_reducible rfl
          rotate_left
          ·simp only [Act.put, sA_, sB_, sC_, i64_w]
           rfl
          refine join_ (σ := Value) 15 L6_ (fun s_ => [(39, .string (strOfNums t259)), (40, s_), (41, .string (strOfNums y263)), (43, .string (strOfNums t251)), (44, .string ((strOfNums y263) ++ (strOfNums t251)))]) (fun s_ w' => (Kd.R (Kd.int .u8) 5 w' w.heap.size (fun k_ => some k_ ≠ (v257 : Value).ownBlock ∧ some k_ ≠ (.slice Ao19 t259.length co19 : Value).ownBlock ∧ some k_ ≠ (s_ : Value).ownBlock) v253 t251) ∧ (Kd.R (Kd.int .u8) 5 w' w.heap.size (fun k_ => some k_ ≠ (v253 : Value).ownBlock ∧ some k_ ≠ (.slice Ao19 t259.length co19 : Value).ownBlock ∧ some k_ ≠ (s_ : Value).ownBlock) v257 t255) ∧ (Kd.R (Kd.int .u8) 5 w' w.heap.size (fun k_ => some k_ ≠ (v253 : Value).ownBlock ∧ some k_ ≠ (v257 : Value).ownBlock ∧ some k_ ≠ (s_ : Value).ownBlock) (.slice Ao19 t259.length co19) t259) ∧ (Kd.R (Kd.int .u8) 5 w' w.heap.size (fun k_ => some k_ ≠ (v253 : Value).ownBlock ∧ some k_ ≠ (v257 : Value).ownBlock ∧ some k_ ≠ (.slice Ao19 t259.length co19 : Value).ownBlock) s_ y263) ∧ (Below w.heap.size w w')) ?_ ?_
          rotate_left
          ·intro hJ4_5_6_8
           refine join_ (σ := Value) 17 L7_ (fun s_ => [(39, .string (strOfNums t259)), (40, s_), (41, .string (strOfNums y263))]) (fun s_ w' => (Kd.R (Kd.int .u8) 5 w' w.heap.size (fun k_ => some k_ ≠ (v257 : Value).ownBlock ∧ some k_ ≠ (.slice Ao19 t259.length co19 : Value).ownBlock ∧ some k_ ≠ (s_ : Value).ownBlock) v253 t251) ∧ (Kd.R (Kd.int .u8) 5 w' w.heap.size (fun k_ => some k_ ≠ (v253 : Value).ownBlock ∧ some k_ ≠ (.slice Ao19 t259.length co19 : Value).ownBlock ∧ some k_ ≠ (s_ : Value).ownBlock) v257 t255) ∧ (Kd.R (Kd.int .u8) 5 w' w.heap.size (fun k_ => some k_ ≠ (v253 : Value).ownBlock ∧ some k_ ≠ (v257 : Value).ownBlock ∧ some k_ ≠ (s_ : Value).ownBlock) (.slice Ao19 t259.length co19) t259) ∧ (Kd.R (Kd.int .u8) 5 w' w.heap.size (fun k_ => some k_ ≠ (v253 : Value).ownBlock ∧ some k_ ≠ (v257 : Value).ownBlock ∧ some k_ ≠ (.slice Ao19 t259.length co19 : Value).ownBlock) s_ y263) ∧ (Below w.heap.size w w')) ?_ ?_
           rotate_left
           ·intro hJ4_5_6
            refine join_ (σ := Value) 17 L8_ (fun s_ => [(39, .string (strOfNums t259)), (40, s_), (43, .string (strOfNums t251))]) (fun s_ w' => (Kd.R (Kd.int .u8) 5 w' w.heap.size (fun k_ => some k_ ≠ (v257 : Value).ownBlock ∧ some k_ ≠ (.slice Ao19 t259.length co19 : Value).ownBlock ∧ some k_ ≠ (s_ : Value).ownBlock) v253 t251) ∧ (Kd.R (Kd.int .u8) 5 w' w.heap.size (fun k_ => some k_ ≠ (v253 : Value).ownBlock ∧ some k_ ≠ (.slice Ao19 t259.length co19 : Value).ownBlock ∧ some k_ ≠ (s_ : Value).ownBlock) v257 t255) ∧ (Kd.R (Kd.int .u8) 5 w' w.heap.size (fun k_ => some k_ ≠ (v253 : Value).ownBlock ∧ some k_ ≠ (v257 : Value).ownBlock ∧ some k_ ≠ (s_ : Value).ownBlock) (.slice Ao19 t259.length co19) t259) ∧ (Kd.R (Kd.int .u8) 5 w' w.heap.size (fun k_ => some k_ ≠ (v253 : Value).ownBlock ∧ some k_ ≠ (v257 : Value).ownBlock ∧ some k_ ≠ (.slice Ao19 t259.length co19 : Value).ownBlock) s_ y263) ∧ (Below w.heap.size w w')) ?_ ?_
            rotate_left
            ·intro hJ4_5_8
             refine join_ (σ := Value) 16 L9_ (fun s_ => [(40, s_), (41, .string (strOfNums y263)), (43, .string (strOfNums t251)), (44, .string ((strOfNums y263) ++ (strOfNums t251)))]) (fun s_ w' => (Kd.R (Kd.int .u8) 5 w' w.heap.size (fun k_ => some k_ ≠ (v257 : Value).ownBlock ∧ some k_ ≠ (.slice Ao19 t259.length co19 : Value).ownBlock ∧ some k_ ≠ (s_ : Value).ownBlock) v253 t251) ∧ (Kd.R (Kd.int .u8) 5 w' w.heap.size (fun k_ => some k_ ≠ (v253 : Value).ownBlock ∧ some k_ ≠ (.slice Ao19 t259.length co19 : Value).ownBlock ∧ some k_ ≠ (s_ : Value).ownBlock) v257 t255) ∧ (Kd.R (Kd.int .u8) 5 w' w.heap.size (fun k_ => some k_ ≠ (v253 : Value).ownBlock ∧ some k_ ≠ (v257 : Value).ownBlock ∧ some k_ ≠ (s_ : Value).ownBlock) (.slice Ao19 t259.length co19) t259) ∧ (Kd.R (Kd.int .u8) 5 w' w.heap.size (fun k_ => some k_ ≠ (v253 : Value).ownBlock ∧ some k_ ≠ (v257 : Value).ownBlock ∧ some k_ ≠ (.slice Ao19 t259.length co19 : Value).ownBlock) s_ y263) ∧ (Below w.heap.size w w')) ?_ ?_
             rotate_left
             ·intro hJ5_6_8
              refine join_ (σ := Value) 18 L10_ (fun s_ => [(39, .string (strOfNums t259)), (40, s_)]) (fun s_ w' => (Kd.R (Kd.int .u8) 5 w' w.heap.size (fun k_ => some k_ ≠ (v257 : Value).ownBlock ∧ some k_ ≠ (.slice Ao19 t259.length co19 : Value).ownBlock ∧ some k_ ≠ (s_ : Value).ownBlock) v253 t251) ∧ (Kd.R (Kd.int .u8) 5 w' w.heap.size (fun k_ => some k_ ≠ (v253 : Value).ownBlock ∧ some k_ ≠ (.slice Ao19 t259.length co19 : Value).ownBlock ∧ some k_ ≠ (s_ : Value).ownBlock) v257 t255) ∧ (Kd.R (Kd.int .u8) 5 w' w.heap.size (fun k_ => some k_ ≠ (v253 : Value).ownBlock ∧ some k_ ≠ (v257 : Value).ownBlock ∧ some k_ ≠ (s_ : Value).ownBlock) (.slice Ao19 t259.length co19) t259) ∧ (Kd.R (Kd.int .u8) 5 w' w.heap.size (fun k_ => some k_ ≠ (v253 : Value).ownBlock ∧ some k_ ≠ (v257 : Value).ownBlock ∧ some k_ ≠ (.slice Ao19 t259.length co19 : Value).ownBlock) s_ y263) ∧ (Below w.heap.size w w')) ?_ ?_
              rotate_left
              ·intro hJ4_5
               refine join_ (σ := Unit) 18 L11_ (fun s_ => [(39, .string (strOfNums t259)), (43, .string (strOfNums t251))]) (fun s_ w' => (Kd.R (Kd.int .u8) 5 w' w.heap.size (fun k_ => some k_ ≠ (v257 : Value).ownBlock ∧ some k_ ≠ (.slice Ao19 t259.length co19 : Value).ownBlock) v253 t251) ∧ (Kd.R (Kd.int .u8) 5 w' w.heap.size (fun k_ => some k_ ≠ (v253 : Value).ownBlock ∧ some k_ ≠ (.slice Ao19 t259.length co19 : Value).ownBlock) v257 t255) ∧ (Kd.R (Kd.int .u8) 5 w' w.heap.size (fun k_ => some k_ ≠ (v253 : Value).ownBlock ∧ some k_ ≠ (v257 : Value).ownBlock) (.slice Ao19 t259.length co19) t259) ∧ (Below w.heap.size w w')) ?_ ?_
               rotate_left
               ·intro hJ4_8
                refine join_ (σ := Value) 18 L12_ (fun s_ => [(40, s_), (41, .string (strOfNums y263))]) (fun s_ w' => (Kd.R (Kd.int .u8) 5 w' w.heap.size (fun k_ => some k_ ≠ (v257 : Value).ownBlock ∧ some k_ ≠ (.slice Ao19 t259.length co19 : Value).ownBlock ∧ some k_ ≠ (s_ : Value).ownBlock) v253 t251) ∧ (Kd.R (Kd.int .u8) 5 w' w.heap.size (fun k_ => some k_ ≠ (v253 : Value).ownBlock ∧ some k_ ≠ (.slice Ao19 t259.length co19 : Value).ownBlock ∧ some k_ ≠ (s_ : Value).ownBlock) v257 t255) ∧ (Kd.R (Kd.int .u8) 5 w' w.heap.size (fun k_ => some k_ ≠ (v253 : Value).ownBlock ∧ some k_ ≠ (v257 : Value).ownBlock ∧ some k_ ≠ (s_ : Value).ownBlock) (.slice Ao19 t259.length co19) t259) ∧ (Kd.R (Kd.int .u8) 5 w' w.heap.size (fun k_ => some k_ ≠ (v253 : Value).ownBlock ∧ some k_ ≠ (v257 : Value).ownBlock ∧ some k_ ≠ (.slice Ao19 t259.length co19 : Value).ownBlock) s_ y263) ∧ (Below w.heap.size w w')) ?_ ?_
                rotate_left
                ·intro hJ5_6
                 refine join_ (σ := Value) 18 L13_ (fun s_ => [(40, s_), (43, .string (strOfNums t251))]) (fun s_ w' => (Kd.R (Kd.int .u8) 5 w' w.heap.size (fun k_ => some k_ ≠ (v257 : Value).ownBlock ∧ some k_ ≠ (.slice Ao19 t259.length co19 : Value).ownBlock ∧ some k_ ≠ (s_ : Value).ownBlock) v253 t251) ∧ (Kd.R (Kd.int .u8) 5 w' w.heap.size (fun k_ => some k_ ≠ (v253 : Value).ownBlock ∧ some k_ ≠ (.slice Ao19 t259.length co19 : Value).ownBlock ∧ some k_ ≠ (s_ : Value).ownBlock) v257 t255) ∧ (Kd.R (Kd.int .u8) 5 w' w.heap.size (fun k_ => some k_ ≠ (v253 : Value).ownBlock ∧ some k_ ≠ (v257 : Value).ownBlock ∧ some k_ ≠ (s_ : Value).ownBlock) (.slice Ao19 t259.length co19) t259) ∧ (Kd.R (Kd.int .u8) 5 w' w.heap.size (fun k_ => some k_ ≠ (v253 : Value).ownBlock ∧ some k_ ≠ (v257 : Value).ownBlock ∧ some k_ ≠ (.slice Ao19 t259.length co19 : Value).ownBlock) s_ y263) ∧ (Below w.heap.size w w')) ?_ ?_
                 rotate_left
                 ·intro hJ5_8
                  refine join_ (σ := Unit) 19 L14_ (fun s_ => [(39, .string (strOfNums t259))]) (fun s_ w' => (Kd.R (Kd.int .u8) 5 w' w.heap.size (fun k_ => some k_ ≠ (v257 : Value).ownBlock ∧ some k_ ≠ (.slice Ao19 t259.length co19 : Value).ownBlock) v253 t251) ∧ (Kd.R (Kd.int .u8) 5 w' w.heap.size (fun k_ => some k_ ≠ (v253 : Value).ownBlock ∧ some k_ ≠ (.slice Ao19 t259.length co19 : Value).ownBlock) v257 t255) ∧ (Kd.R (Kd.int .u8) 5 w' w.heap.size (fun k_ => some k_ ≠ (v253 : Value).ownBlock ∧ some k_ ≠ (v257 : Value).ownBlock) (.slice Ao19 t259.length co19) t259) ∧ (Below w.heap.size w w')) ?_ ?_
                  rotate_left
                  ·intro hJ4
                   refine join_ (σ := Value) 19 L15_ (fun s_ => [(40, s_)]) (fun s_ w' => (Kd.R (Kd.int .u8) 5 w' w.heap.size (fun k_ => some k_ ≠ (v257 : Value).ownBlock ∧ some k_ ≠ (.slice Ao19 t259.length co19 : Value).ownBlock ∧ some k_ ≠ (s_ : Value).ownBlock) v253 t251) ∧ (Kd.R (Kd.int .u8) 5 w' w.heap.size (fun k_ => some k_ ≠ (v253 : Value).ownBlock ∧ some k_ ≠ (.slice Ao19 t259.length co19 : Value).ownBlock ∧ some k_ ≠ (s_ : Value).ownBlock) v257 t255) ∧ (Kd.R (Kd.int .u8) 5 w' w.heap.size (fun k_ => some k_ ≠ (v253 : Value).ownBlock ∧ some k_ ≠ (v257 : Value).ownBlock ∧ some k_ ≠ (s_ : Value).ownBlock) (.slice Ao19 t259.length co19) t259) ∧ (Kd.R (Kd.int .u8) 5 w' w.heap.size (fun k_ => some k_ ≠ (v253 : Value).ownBlock ∧ some k_ ≠ (v257 : Value).ownBlock ∧ some k_ ≠ (.slice Ao19 t259.length co19 : Value).ownBlock) s_ y263) ∧ (Below w.heap.size w w')) ?_ ?_
                   rotate_left
                   ·intro hJ5
                    refine join_ (σ := Unit) 19 L16_ (fun s_ => [(43, .string (strOfNums t251))]) (fun s_ w' => (Kd.R (Kd.int .u8) 5 w' w.heap.size (fun k_ => some k_ ≠ (v257 : Value).ownBlock ∧ some k_ ≠ (.slice Ao19 t259.length co19 : Value).ownBlock) v253 t251) ∧ (Kd.R (Kd.int .u8) 5 w' w.heap.size (fun k_ => some k_ ≠ (v253 : Value).ownBlock ∧ some k_ ≠ (.slice Ao19 t259.length co19 : Value).ownBlock) v257 t255) ∧ (Kd.R (Kd.int .u8) 5 w' w.heap.size (fun k_ => some k_ ≠ (v253 : Value).ownBlock ∧ some k_ ≠ (v257 : Value).ownBlock) (.slice Ao19 t259.length co19) t259) ∧ (Below w.heap.size w w')) ?_ ?_
                    rotate_left
                    ·intro hJ8
                     refine three_ (i := 4) (j := 5) (k := 8) (Ni := some 39) (Nj := some 40) (Nk := some 43) L14_ L15_ L16_ rfl rfl rfl rfl rfl rfl (three_of HT_.out (by kernel_rfl)) (by decide) (by decide) (by decide) (fun K hK => ?_) (fun K hK => ?_) (fun K hK => ?_)
                     ·skip
                      have hcv21 := own_string (P := Try.prog) Try.underlying23 Try.underlying5 Try.underlying9 (Kd.own_of_R HO262.out)
                      refine value_ (w1 := ?_) (v := ?_) (by rfl) rfl ?_ ?_
                      rotate_left 2
                      ·go_simp
                       constructor
                       ·rfl
                       ·rfl
                      clear hcv21
                      refine hK.out _ _ trivial (fun hHeld => ?_)
                      clear hK K
                      refine norm_ (a' := ?_) ?_ ?_
                      rotate_left
                      ·show Act.put _ (some 39) _ = _
                       simp only [Act.put, sA_, sB_, sC_, i64_w]
                       rfl
                      exact norm_ (by simp only [putAll, Act.put, sA_, sB_, sC_] <;> rfl) (hJ4 () _ ⟨(by (with_reducible repeat (first | apply Kd.R_alloc | apply Kd.R_drewN | apply Kd.R_drew)); exact Kd.R_mono HO254.out (fun _ hk => ⟨hk.1.2, hk.2⟩)), (by (with_reducible repeat (first | apply Kd.R_alloc | apply Kd.R_drewN | apply Kd.R_drew)); exact Kd.R_mono HO258.out (fun _ hk => ⟨hk.1.2, hk.2⟩)), (by (with_reducible repeat (first | apply Kd.R_alloc | apply Kd.R_drewN | apply Kd.R_drew)); exact Kd.R_mono HO262.out (fun _ hk => ⟨hk.1.2, hk.2⟩)), (bq_ HB.out)⟩)
                     ·skip
                      refine Kd.R_make_step (Kd.int .u8) _ 5 (by rfl) (N := 40) rfl 23 _ _ rfl 7 rfl rfl Try.underlying23 (.int .u8 0) 1 info5 rfl (by decide) (by omega) 0 (ok := fun _ => True) (okp := fun _ => True) rfl (fun _ hk => hk) trivial (by omega) (by omega) (Below.refl _ _) (Nat.le_refl _) ?_
                      intro v264 w21 ho22 hb hg_ hnew_
                      clear hg_ hnew_
                      (first | rw [← Ny263.out] at ho22 | (simp only [Int.reduceToNat] at ho22; rw [← Ny263.out] at ho22))
                      have n0_ := Aside0.mk (Kd.R_elder' (mv2_ HO254.out) (Kd.R_base ho22) hb)
                      have n1_ := Aside0.mk (Kd.R_elder' (mv2_ HO258.out) (Kd.R_base ho22) hb)
                      have n2_ := Aside0.mk (Kd.R_elder' (mv2_ HO262.out) (Kd.R_base ho22) hb)
                      have n3_ := Aside0.mk (Kd.R_lower (Kd.R_new' (Kd.R_new' (Kd.R_new' ho22 (Kd.R_lt (mv2_ HO254.out))) (Kd.R_lt (mv2_ HO258.out))) (Kd.R_lt (mv2_ HO262.out))) (below_size (bq_ HB.out)))
                      have n4_ := Aside0.mk (below_step (bq_ HB.out) hb)
                      clear HO254 HO258 HO262 HB
                      have HO254 := n0_
                      have HO258 := n1_
                      have HO262 := n2_
                      have HO265 := n3_
                      have HB := n4_
                      clear n0_ n1_ n2_ n3_ n4_ hb ho22
                      refine hK.out _ _ trivial (fun hHeld => ?_)
                      clear hK K
                      refine norm_ (a' := ?_) ?_ ?_
                      rotate_left
                      ·show Act.put _ (some 40) _ = _
                       simp only [Act.put, sA_, sB_, sC_, i64_w]
                       rfl
                      exact norm_ (by simp only [putAll, Act.put, sA_, sB_, sC_] <;> rfl) (hJ5 (v264) _ ⟨(by (with_reducible repeat (first | apply Kd.R_alloc | apply Kd.R_drewN | apply Kd.R_drew)); exact Kd.R_mono HO254.out (fun _ hk => ⟨hk.1.1.2, ⟨hk.1.2, hk.2⟩⟩)), (by (with_reducible repeat (first | apply Kd.R_alloc | apply Kd.R_drewN | apply Kd.R_drew)); exact Kd.R_mono HO258.out (fun _ hk => ⟨hk.1.1.2, ⟨hk.1.2, hk.2⟩⟩)), (by (with_reducible repeat (first | apply Kd.R_alloc | apply Kd.R_drewN | apply Kd.R_drew)); exact Kd.R_mono HO262.out (fun _ hk => ⟨hk.1.1.2, ⟨hk.1.2, hk.2⟩⟩)), (by (with_reducible repeat (first | apply Kd.R_alloc | apply Kd.R_drewN | apply Kd.R_drew)); exact Kd.R_mono HO265.out (fun _ hk => ⟨hk.1.1.2, ⟨hk.1.2, hk.2⟩⟩)), (bq_ HB.out)⟩)
                     ·skip
                      have hcv21 := own_string (P := Try.prog) Try.underlying23 Try.underlying5 Try.underlying9 (Kd.own_of_R HO254.out)
                      refine value_ (w1 := ?_) (v := ?_) (by rfl) rfl ?_ ?_
                      rotate_left 2
                      ·go_simp
                       constructor
                       ·rfl
                       ·rfl
                      clear hcv21
                      refine hK.out _ _ trivial (fun hHeld => ?_)
                      clear hK K
                      refine norm_ (a' := ?_) ?_ ?_
                      rotate_left
                      ·show Act.put _ (some 43) _ = _
                       simp only [Act.put, sA_, sB_, sC_, i64_w]
                       rfl
                      exact norm_ (by simp only [putAll, Act.put, sA_, sB_, sC_] <;> rfl) (hJ8 () _ ⟨(by (with_reducible repeat (first | apply Kd.R_alloc | apply Kd.R_drewN | apply Kd.R_drew)); exact Kd.R_mono HO254.out (fun _ hk => ⟨hk.1.2, hk.2⟩)), (by (with_reducible repeat (first | apply Kd.R_alloc | apply Kd.R_drewN | apply Kd.R_drew)); exact Kd.R_mono HO258.out (fun _ hk => ⟨hk.1.2, hk.2⟩)), (by (with_reducible repeat (first | apply Kd.R_alloc | apply Kd.R_drewN | apply Kd.R_drew)); exact Kd.R_mono HO262.out (fun _ hk => ⟨hk.1.2, hk.2⟩)), (bq_ HB.out)⟩)
                    ·skip
                     rintro _ w22 ⟨h0_, h1_, h2_, h3_⟩
                     have n0_ : Aside0 (Kd.R (Kd.int .u8) 5 w22 w.heap.size (fun k_ => some k_ ≠ (v257 : Value).ownBlock ∧ some k_ ≠ (.slice Ao19 t259.length co19 : Value).ownBlock) v253 t251) := ⟨h0_⟩
                     have n1_ : Aside0 (Kd.R (Kd.int .u8) 5 w22 w.heap.size (fun k_ => some k_ ≠ (v253 : Value).ownBlock ∧ some k_ ≠ (.slice Ao19 t259.length co19 : Value).ownBlock) v257 t255) := ⟨h1_⟩
                     have n2_ : Aside0 (Kd.R (Kd.int .u8) 5 w22 w.heap.size (fun k_ => some k_ ≠ (v253 : Value).ownBlock ∧ some k_ ≠ (v257 : Value).ownBlock) (.slice Ao19 t259.length co19) t259) := ⟨h2_⟩
                     have n3_ : Aside0 (Below w.heap.size w w22) := ⟨h3_⟩
                     clear HO254 HO258 HO262 HB h0_ h1_ h2_ h3_
                     have HO254 := n0_
                     have HO258 := n1_
                     have HO262 := n2_
                     have HB := n3_
                     clear n0_ n1_ n2_ n3_
                     have hHeld := trivial
                     refine norm_ (a' := ?_) ?_ ?_
                     rotate_left
                     ·simp only [putAll, Act.put, sA_, sB_, sC_]
                      rfl
                     refine two_ (i := 4) (j := 5) (Ni := some 39) (Nj := some 40) L11_ L13_ rfl rfl rfl rfl (two_of HT_.out (by kernel_rfl)) (by decide) (by decide) (fun K hK => ?_) (fun K hK => ?_)
                     ·skip
                      have hcv23 := own_string (P := Try.prog) Try.underlying23 Try.underlying5 Try.underlying9 (Kd.own_of_R HO262.out)
                      refine value_ (w1 := ?_) (v := ?_) (by rfl) rfl ?_ ?_
                      rotate_left 2
                      ·go_simp
                       constructor
                       ·rfl
                       ·rfl
                      clear hcv23
                      refine hK.out _ _ trivial (fun hHeld => ?_)
                      clear hK K
                      refine norm_ (a' := ?_) ?_ ?_
                      rotate_left
                      ·show Act.put _ (some 39) _ = _
                       simp only [Act.put, sA_, sB_, sC_, i64_w]
                       rfl
                      exact norm_ (by simp only [putAll, Act.put, sA_, sB_, sC_] <;> rfl) (hJ4_8 () _ ⟨(mv2_ HO254.out), (mv2_ HO258.out), (mv2_ HO262.out), (bq_ HB.out)⟩)
                     ·skip
                      refine Kd.R_make_step (Kd.int .u8) _ 5 (by rfl) (N := 40) rfl 23 _ _ rfl 7 rfl rfl Try.underlying23 (.int .u8 0) 1 info5 rfl (by decide) (by omega) 0 (ok := fun _ => True) (okp := fun _ => True) rfl (fun _ hk => hk) trivial (by omega) (by omega) (Below.refl _ _) (Nat.le_refl _) ?_
                      intro v264 w23 ho24 hb hg_ hnew_
                      clear hg_ hnew_
                      (first | rw [← Ny263.out] at ho24 | (simp only [Int.reduceToNat] at ho24; rw [← Ny263.out] at ho24))
                      have n0_ := Aside0.mk (Kd.R_elder' (mv2_ HO254.out) (Kd.R_base ho24) hb)
                      have n1_ := Aside0.mk (Kd.R_elder' (mv2_ HO258.out) (Kd.R_base ho24) hb)
                      have n2_ := Aside0.mk (Kd.R_elder' (mv2_ HO262.out) (Kd.R_base ho24) hb)
                      have n3_ := Aside0.mk (Kd.R_lower (Kd.R_new' (Kd.R_new' (Kd.R_new' ho24 (Kd.R_lt (mv2_ HO254.out))) (Kd.R_lt (mv2_ HO258.out))) (Kd.R_lt (mv2_ HO262.out))) (below_size (bq_ HB.out)))
                      have n4_ := Aside0.mk (below_step (bq_ HB.out) hb)
                      clear HO254 HO258 HO262 HB
                      have HO254 := n0_
                      have HO258 := n1_
                      have HO262 := n2_
                      have HO265 := n3_
                      have HB := n4_
                      clear n0_ n1_ n2_ n3_ n4_ hb ho24
                      refine hK.out _ _ trivial (fun hHeld => ?_)
                      clear hK K
                      refine norm_ (a' := ?_) ?_ ?_
                      rotate_left
                      ·show Act.put _ (some 40) _ = _
                       simp only [Act.put, sA_, sB_, sC_, i64_w]
                       rfl
                      exact norm_ (by simp only [putAll, Act.put, sA_, sB_, sC_] <;> rfl) (hJ5_8 (v264) _ ⟨(by (with_reducible repeat (first | apply Kd.R_alloc | apply Kd.R_drewN | apply Kd.R_drew)); exact Kd.R_mono HO254.out (fun _ hk => ⟨hk.1.1, ⟨hk.1.2, hk.2⟩⟩)), (by (with_reducible repeat (first | apply Kd.R_alloc | apply Kd.R_drewN | apply Kd.R_drew)); exact Kd.R_mono HO258.out (fun _ hk => ⟨hk.1.1, ⟨hk.1.2, hk.2⟩⟩)), (by (with_reducible repeat (first | apply Kd.R_alloc | apply Kd.R_drewN | apply Kd.R_drew)); exact Kd.R_mono HO262.out (fun _ hk => ⟨hk.1.1, ⟨hk.1.2, hk.2⟩⟩)), (by (with_reducible repeat (first | apply Kd.R_alloc | apply Kd.R_drewN | apply Kd.R_drew)); exact Kd.R_mono HO265.out (fun _ hk => ⟨hk.1.1.2, ⟨hk.1.2, hk.2⟩⟩)), (bq_ HB.out)⟩)
                   ·skip
                    rintro v264 w23 ⟨h0_, h1_, h2_, h3_, h4_⟩
                    have n0_ : Aside0 (Kd.R (Kd.int .u8) 5 w23 w.heap.size (fun k_ => some k_ ≠ (v257 : Value).ownBlock ∧ some k_ ≠ (.slice Ao19 t259.length co19 : Value).ownBlock ∧ some k_ ≠ (v264 : Value).ownBlock) v253 t251) := ⟨h0_⟩
                    have n1_ : Aside0 (Kd.R (Kd.int .u8) 5 w23 w.heap.size (fun k_ => some k_ ≠ (v253 : Value).ownBlock ∧ some k_ ≠ (.slice Ao19 t259.length co19 : Value).ownBlock ∧ some k_ ≠ (v264 : Value).ownBlock) v257 t255) := ⟨h1_⟩
                    have n2_ : Aside0 (Kd.R (Kd.int .u8) 5 w23 w.heap.size (fun k_ => some k_ ≠ (v253 : Value).ownBlock ∧ some k_ ≠ (v257 : Value).ownBlock ∧ some k_ ≠ (v264 : Value).ownBlock) (.slice Ao19 t259.length co19) t259) := ⟨h2_⟩
                    have n3_ : Aside0 (Kd.R (Kd.int .u8) 5 w23 w.heap.size (fun k_ => some k_ ≠ (v253 : Value).ownBlock ∧ some k_ ≠ (v257 : Value).ownBlock ∧ some k_ ≠ (.slice Ao19 t259.length co19 : Value).ownBlock) v264 y263) := ⟨h3_⟩
                    have n4_ : Aside0 (Below w.heap.size w w23) := ⟨h4_⟩
                    clear HO254 HO258 HO262 HB h0_ h1_ h2_ h3_ h4_
                    have HO254 := n0_
                    have HO258 := n1_
                    have HO262 := n2_
                    have HO265 := n3_
                    have HB := n4_
                    clear n0_ n1_ n2_ n3_ n4_
                    have hHeld := trivial
                    refine norm_ (a' := ?_) ?_ ?_
                    rotate_left
                    ·simp only [putAll, Act.put, sA_, sB_, sC_]
                     rfl
                    refine three_ (i := 4) (j := 6) (k := 8) (Ni := some 39) (Nj := some 41) (Nk := some 43) L10_ L12_ L13_ rfl rfl rfl rfl rfl rfl (three_of HT_.out (by kernel_rfl)) (by decide) (by decide) (by decide) (fun K hK => ?_) (fun K hK => ?_) (fun K hK => ?_)
                    ·skip
                     have hcv24 := own_string (P := Try.prog) Try.underlying23 Try.underlying5 Try.underlying9 (Kd.own_of_R HO262.out)
                     refine value_ (w1 := ?_) (v := ?_) (by rfl) rfl ?_ ?_
                     rotate_left 2
                     ·go_simp
                      constructor
                      ·rfl
                      ·rfl
                     clear hcv24
                     refine hK.out _ _ trivial (fun hHeld => ?_)
                     clear hK K
                     refine norm_ (a' := ?_) ?_ ?_
                     rotate_left
                     ·show Act.put _ (some 39) _ = _
                      simp only [Act.put, sA_, sB_, sC_, i64_w]
                      rfl
                     exact norm_ (by simp only [putAll, Act.put, sA_, sB_, sC_] <;> rfl) (hJ4_5 (v264) _ ⟨(mv2_ HO254.out), (mv2_ HO258.out), (mv2_ HO262.out), (mv2_ HO265.out), (bq_ HB.out)⟩)
                    ·skip
                     have hcv24 := own_string (P := Try.prog) Try.underlying23 Try.underlying5 Try.underlying9 (Kd.own_of_R HO265.out)
                     refine value_ (w1 := ?_) (v := ?_) (by rfl) rfl ?_ ?_
                     rotate_left 2
                     ·go_simp
                      constructor
                      ·rfl
                      ·rfl
                     clear hcv24
                     refine hK.out _ _ trivial (fun hHeld => ?_)
                     clear hK K
                     refine norm_ (a' := ?_) ?_ ?_
                     rotate_left
                     ·show Act.put _ (some 41) _ = _
                      simp only [Act.put, sA_, sB_, sC_, i64_w]
                      rfl
                     exact norm_ (by simp only [putAll, Act.put, sA_, sB_, sC_] <;> rfl) (hJ5_6 (v264) _ ⟨(mv2_ HO254.out), (mv2_ HO258.out), (mv2_ HO262.out), (mv2_ HO265.out), (bq_ HB.out)⟩)
                    ·skip
                     have hcv24 := own_string (P := Try.prog) Try.underlying23 Try.underlying5 Try.underlying9 (Kd.own_of_R HO254.out)
                     refine value_ (w1 := ?_) (v := ?_) (by rfl) rfl ?_ ?_
                     rotate_left 2
                     ·go_simp
                      constructor
                      ·rfl
                      ·rfl
                     clear hcv24
                     refine hK.out _ _ trivial (fun hHeld => ?_)
                     clear hK K
                     refine norm_ (a' := ?_) ?_ ?_
                     rotate_left
                     ·show Act.put _ (some 43) _ = _
                      simp only [Act.put, sA_, sB_, sC_, i64_w]
                      rfl
                     exact norm_ (by simp only [putAll, Act.put, sA_, sB_, sC_] <;> rfl) (hJ5_8 (v264) _ ⟨(mv2_ HO254.out), (mv2_ HO258.out), (mv2_ HO262.out), (mv2_ HO265.out), (bq_ HB.out)⟩)
                  ·skip
                   rintro _ w22 ⟨h0_, h1_, h2_, h3_⟩
                   have n0_ : Aside0 (Kd.R (Kd.int .u8) 5 w22 w.heap.size (fun k_ => some k_ ≠ (v257 : Value).ownBlock ∧ some k_ ≠ (.slice Ao19 t259.length co19 : Value).ownBlock) v253 t251) := ⟨h0_⟩
                   have n1_ : Aside0 (Kd.R (Kd.int .u8) 5 w22 w.heap.size (fun k_ => some k_ ≠ (v253 : Value).ownBlock ∧ some k_ ≠ (.slice Ao19 t259.length co19 : Value).ownBlock) v257 t255) := ⟨h1_⟩
                   have n2_ : Aside0 (Kd.R (Kd.int .u8) 5 w22 w.heap.size (fun k_ => some k_ ≠ (v253 : Value).ownBlock ∧ some k_ ≠ (v257 : Value).ownBlock) (.slice Ao19 t259.length co19) t259) := ⟨h2_⟩
                   have n3_ : Aside0 (Below w.heap.size w w22) := ⟨h3_⟩
                   clear HO254 HO258 HO262 HB h0_ h1_ h2_ h3_
                   have HO254 := n0_
                   have HO258 := n1_
                   have HO262 := n2_
                   have HB := n3_
                   clear n0_ n1_ n2_ n3_
                   have hHeld := trivial
                   refine norm_ (a' := ?_) ?_ ?_
                   rotate_left
                   ·simp only [putAll, Act.put, sA_, sB_, sC_]
                    rfl
                   refine two_ (i := 5) (j := 8) (Ni := some 40) (Nj := some 43) L10_ L11_ rfl rfl rfl rfl (two_of HT_.out (by kernel_rfl)) (by decide) (by decide) (fun K hK => ?_) (fun K hK => ?_)
                   ·skip
                    refine Kd.R_make_step (Kd.int .u8) _ 5 (by rfl) (N := 40) rfl 23 _ _ rfl 7 rfl rfl Try.underlying23 (.int .u8 0) 1 info5 rfl (by decide) (by omega) 0 (ok := fun _ => True) (okp := fun _ => True) rfl (fun _ hk => hk) trivial (by omega) (by omega) (Below.refl _ _) (Nat.le_refl _) ?_
                    intro v264 w23 ho24 hb hg_ hnew_
                    clear hg_ hnew_
                    (first | rw [← Ny263.out] at ho24 | (simp only [Int.reduceToNat] at ho24; rw [← Ny263.out] at ho24))
                    have n0_ := Aside0.mk (Kd.R_elder' (mv2_ HO254.out) (Kd.R_base ho24) hb)
                    have n1_ := Aside0.mk (Kd.R_elder' (mv2_ HO258.out) (Kd.R_base ho24) hb)
                    have n2_ := Aside0.mk (Kd.R_elder' (mv2_ HO262.out) (Kd.R_base ho24) hb)
                    have n3_ := Aside0.mk (Kd.R_lower (Kd.R_new' (Kd.R_new' (Kd.R_new' ho24 (Kd.R_lt (mv2_ HO254.out))) (Kd.R_lt (mv2_ HO258.out))) (Kd.R_lt (mv2_ HO262.out))) (below_size (bq_ HB.out)))
                    have n4_ := Aside0.mk (below_step (bq_ HB.out) hb)
                    clear HO254 HO258 HO262 HB
                    have HO254 := n0_
                    have HO258 := n1_
                    have HO262 := n2_
                    have HO265 := n3_
                    have HB := n4_
                    clear n0_ n1_ n2_ n3_ n4_ hb ho24
                    refine hK.out _ _ trivial (fun hHeld => ?_)
                    clear hK K
                    refine norm_ (a' := ?_) ?_ ?_
                    rotate_left
                    ·show Act.put _ (some 40) _ = _
                     simp only [Act.put, sA_, sB_, sC_, i64_w]
                     rfl
                    exact norm_ (by simp only [putAll, Act.put, sA_, sB_, sC_] <;> rfl) (hJ4_5 (v264) _ ⟨(by (with_reducible repeat (first | apply Kd.R_alloc | apply Kd.R_drewN | apply Kd.R_drew)); exact Kd.R_mono HO254.out (fun _ hk => ⟨hk.1.1, ⟨hk.1.2, hk.2⟩⟩)), (by (with_reducible repeat (first | apply Kd.R_alloc | apply Kd.R_drewN | apply Kd.R_drew)); exact Kd.R_mono HO258.out (fun _ hk => ⟨hk.1.1, ⟨hk.1.2, hk.2⟩⟩)), (by (with_reducible repeat (first | apply Kd.R_alloc | apply Kd.R_drewN | apply Kd.R_drew)); exact Kd.R_mono HO262.out (fun _ hk => ⟨hk.1.1, ⟨hk.1.2, hk.2⟩⟩)), (by (with_reducible repeat (first | apply Kd.R_alloc | apply Kd.R_drewN | apply Kd.R_drew)); exact Kd.R_mono HO265.out (fun _ hk => ⟨hk.1.1.2, ⟨hk.1.2, hk.2⟩⟩)), (bq_ HB.out)⟩)
                   ·skip
                    have hcv23 := own_string (P := Try.prog) Try.underlying23 Try.underlying5 Try.underlying9 (Kd.own_of_R HO254.out)
                    refine value_ (w1 := ?_) (v := ?_) (by rfl) rfl ?_ ?_
                    rotate_left 2
                    ·go_simp
                     constructor
                     ·rfl
                     ·rfl
                    clear hcv23
                    refine hK.out _ _ trivial (fun hHeld => ?_)
                    clear hK K
                    refine norm_ (a' := ?_) ?_ ?_
                    rotate_left
                    ·show Act.put _ (some 43) _ = _
                     simp only [Act.put, sA_, sB_, sC_, i64_w]
                     rfl
                    exact norm_ (by simp only [putAll, Act.put, sA_, sB_, sC_] <;> rfl) (hJ4_8 () _ ⟨(mv2_ HO254.out), (mv2_ HO258.out), (mv2_ HO262.out), (bq_ HB.out)⟩)
                 ·skip
                  rintro v264 w24 ⟨h0_, h1_, h2_, h3_, h4_⟩
                  have n0_ : Aside0 (Kd.R (Kd.int .u8) 5 w24 w.heap.size (fun k_ => some k_ ≠ (v257 : Value).ownBlock ∧ some k_ ≠ (.slice Ao19 t259.length co19 : Value).ownBlock ∧ some k_ ≠ (v264 : Value).ownBlock) v253 t251) := ⟨h0_⟩
                  have n1_ : Aside0 (Kd.R (Kd.int .u8) 5 w24 w.heap.size (fun k_ => some k_ ≠ (v253 : Value).ownBlock ∧ some k_ ≠ (.slice Ao19 t259.length co19 : Value).ownBlock ∧ some k_ ≠ (v264 : Value).ownBlock) v257 t255) := ⟨h1_⟩
                  have n2_ : Aside0 (Kd.R (Kd.int .u8) 5 w24 w.heap.size (fun k_ => some k_ ≠ (v253 : Value).ownBlock ∧ some k_ ≠ (v257 : Value).ownBlock ∧ some k_ ≠ (v264 : Value).ownBlock) (.slice Ao19 t259.length co19) t259) := ⟨h2_⟩
                  have n3_ : Aside0 (Kd.R (Kd.int .u8) 5 w24 w.heap.size (fun k_ => some k_ ≠ (v253 : Value).ownBlock ∧ some k_ ≠ (v257 : Value).ownBlock ∧ some k_ ≠ (.slice Ao19 t259.length co19 : Value).ownBlock) v264 y263) := ⟨h3_⟩
                  have n4_ : Aside0 (Below w.heap.size w w24) := ⟨h4_⟩
                  clear HO254 HO258 HO262 HB h0_ h1_ h2_ h3_ h4_
                  have HO254 := n0_
                  have HO258 := n1_
                  have HO262 := n2_
                  have HO265 := n3_
                  have HB := n4_
                  clear n0_ n1_ n2_ n3_ n4_
                  have hHeld := trivial
                  refine norm_ (a' := ?_) ?_ ?_
                  rotate_left
                  ·simp only [putAll, Act.put, sA_, sB_, sC_]
                   rfl
                  refine two_ (i := 4) (j := 6) (Ni := some 39) (Nj := some 41) L8_ L17_ rfl rfl rfl rfl (two_of HT_.out (by kernel_rfl)) (by decide) (by decide) (fun K hK => ?_) (fun K hK => ?_)
                  ·skip
                   have hcv25 := own_string (P := Try.prog) Try.underlying23 Try.underlying5 Try.underlying9 (Kd.own_of_R HO262.out)
                   refine value_ (w1 := ?_) (v := ?_) (by rfl) rfl ?_ ?_
                   rotate_left 2
                   ·go_simp
                    constructor
                    ·rfl
                    ·rfl
                   clear hcv25
                   refine hK.out _ _ trivial (fun hHeld => ?_)
                   clear hK K
                   refine norm_ (a' := ?_) ?_ ?_
                   rotate_left
                   ·show Act.put _ (some 39) _ = _
                    simp only [Act.put, sA_, sB_, sC_, i64_w]
                    rfl
                   exact norm_ (by simp only [putAll, Act.put, sA_, sB_, sC_] <;> rfl) (hJ4_5_8 (v264) _ ⟨(mv2_ HO254.out), (mv2_ HO258.out), (mv2_ HO262.out), (mv2_ HO265.out), (bq_ HB.out)⟩)
                  ·skip
                   have hcv25 := own_string (P := Try.prog) Try.underlying23 Try.underlying5 Try.underlying9 (Kd.own_of_R HO265.out)
                   refine value_ (w1 := ?_) (v := ?_) (by rfl) rfl ?_ ?_
                   rotate_left 2
                   ·go_simp
                    constructor
                    ·rfl
                    ·rfl
                   clear hcv25
                   refine hK.out _ _ trivial (fun hHeld => ?_)
                   clear hK K
                   refine norm_ (a' := ?_) ?_ ?_
                   rotate_left
                   ·show Act.put _ (some 41) _ = _
                    simp only [Act.put, sA_, sB_, sC_, i64_w]
                    rfl
                   refine pure_ (i := 9) (N := some 44) (v := ?_) (a' := ?_) L9_ rfl rfl (any_of HT_.out (by kernel_rfl)) (fun _ _ _ h => h) (Or.inl ⟨by rfl, ?_⟩) ?_ ?_
                   rotate_left
                   ·intro w'
                    go_simp
                    with_reducible rfl
                   rotate_left
                   ·simp only [Act.put, sA_, sB_, sC_, i64_w]
                    rfl
                   exact norm_ (by simp only [putAll, Act.put, sA_, sB_, sC_] <;> rfl) (hJ5_6_8 (v264) _ ⟨(mv2_ HO254.out), (mv2_ HO258.out), (mv2_ HO262.out), (mv2_ HO265.out), (bq_ HB.out)⟩)
                ·skip
                 rintro v264 w24 ⟨h0_, h1_, h2_, h3_, h4_⟩
                 have n0_ : Aside0 (Kd.R (Kd.int .u8) 5 w24 w.heap.size (fun k_ => some k_ ≠ (v257 : Value).ownBlock ∧ some k_ ≠ (.slice Ao19 t259.length co19 : Value).ownBlock ∧ some k_ ≠ (v264 : Value).ownBlock) v253 t251) := ⟨h0_⟩
                 have n1_ : Aside0 (Kd.R (Kd.int .u8) 5 w24 w.heap.size (fun k_ => some k_ ≠ (v253 : Value).ownBlock ∧ some k_ ≠ (.slice Ao19 t259.length co19 : Value).ownBlock ∧ some k_ ≠ (v264 : Value).ownBlock) v257 t255) := ⟨h1_⟩
                 have n2_ : Aside0 (Kd.R (Kd.int .u8) 5 w24 w.heap.size (fun k_ => some k_ ≠ (v253 : Value).ownBlock ∧ some k_ ≠ (v257 : Value).ownBlock ∧ some k_ ≠ (v264 : Value).ownBlock) (.slice Ao19 t259.length co19) t259) := ⟨h2_⟩
                 have n3_ : Aside0 (Kd.R (Kd.int .u8) 5 w24 w.heap.size (fun k_ => some k_ ≠ (v253 : Value).ownBlock ∧ some k_ ≠ (v257 : Value).ownBlock ∧ some k_ ≠ (.slice Ao19 t259.length co19 : Value).ownBlock) v264 y263) := ⟨h3_⟩
                 have n4_ : Aside0 (Below w.heap.size w w24) := ⟨h4_⟩
                 clear HO254 HO258 HO262 HB h0_ h1_ h2_ h3_ h4_
                 have HO254 := n0_
                 have HO258 := n1_
                 have HO262 := n2_
                 have HO265 := n3_
                 have HB := n4_
                 clear n0_ n1_ n2_ n3_ n4_
                 have hHeld := trivial
                 refine norm_ (a' := ?_) ?_ ?_
                 rotate_left
                 ·simp only [putAll, Act.put, sA_, sB_, sC_]
                  rfl
                 refine two_ (i := 4) (j := 8) (Ni := some 39) (Nj := some 43) L7_ L17_ rfl rfl rfl rfl (two_of HT_.out (by kernel_rfl)) (by decide) (by decide) (fun K hK => ?_) (fun K hK => ?_)
                 ·skip
                  have hcv25 := own_string (P := Try.prog) Try.underlying23 Try.underlying5 Try.underlying9 (Kd.own_of_R HO262.out)
                  refine value_ (w1 := ?_) (v := ?_) (by rfl) rfl ?_ ?_
                  rotate_left 2
                  ·go_simp
                   constructor
                   ·rfl
                   ·rfl
                  clear hcv25
                  refine hK.out _ _ trivial (fun hHeld => ?_)
                  clear hK K
                  refine norm_ (a' := ?_) ?_ ?_
                  rotate_left
                  ·show Act.put _ (some 39) _ = _
                   simp only [Act.put, sA_, sB_, sC_, i64_w]
                   rfl
                  exact norm_ (by simp only [putAll, Act.put, sA_, sB_, sC_] <;> rfl) (hJ4_5_6 (v264) _ ⟨(mv2_ HO254.out), (mv2_ HO258.out), (mv2_ HO262.out), (mv2_ HO265.out), (bq_ HB.out)⟩)
                 ·skip
                  have hcv25 := own_string (P := Try.prog) Try.underlying23 Try.underlying5 Try.underlying9 (Kd.own_of_R HO254.out)
                  refine value_ (w1 := ?_) (v := ?_) (by rfl) rfl ?_ ?_
                  rotate_left 2
                  ·go_simp
                   constructor
                   ·rfl
                   ·rfl
                  clear hcv25
                  refine hK.out _ _ trivial (fun hHeld => ?_)
                  clear hK K
                  refine norm_ (a' := ?_) ?_ ?_
                  rotate_left
                  ·show Act.put _ (some 43) _ = _
                   simp only [Act.put, sA_, sB_, sC_, i64_w]
                   rfl
                  refine pure_ (i := 9) (N := some 44) (v := ?_) (a' := ?_) L9_ rfl rfl (any_of HT_.out (by kernel_rfl)) (fun _ _ _ h => h) (Or.inl ⟨by rfl, ?_⟩) ?_ ?_
                  rotate_left
                  ·intro w'
                   go_simp
                   with_reducible rfl
                  rotate_left
                  ·simp only [Act.put, sA_, sB_, sC_, i64_w]
                   rfl
                  exact norm_ (by simp only [putAll, Act.put, sA_, sB_, sC_] <;> rfl) (hJ5_6_8 (v264) _ ⟨(mv2_ HO254.out), (mv2_ HO258.out), (mv2_ HO262.out), (mv2_ HO265.out), (bq_ HB.out)⟩)
               ·skip
                rintro _ w23 ⟨h0_, h1_, h2_, h3_⟩
                have n0_ : Aside0 (Kd.R (Kd.int .u8) 5 w23 w.heap.size (fun k_ => some k_ ≠ (v257 : Value).ownBlock ∧ some k_ ≠ (.slice Ao19 t259.length co19 : Value).ownBlock) v253 t251) := ⟨h0_⟩
                have n1_ : Aside0 (Kd.R (Kd.int .u8) 5 w23 w.heap.size (fun k_ => some k_ ≠ (v253 : Value).ownBlock ∧ some k_ ≠ (.slice Ao19 t259.length co19 : Value).ownBlock) v257 t255) := ⟨h1_⟩
                have n2_ : Aside0 (Kd.R (Kd.int .u8) 5 w23 w.heap.size (fun k_ => some k_ ≠ (v253 : Value).ownBlock ∧ some k_ ≠ (v257 : Value).ownBlock) (.slice Ao19 t259.length co19) t259) := ⟨h2_⟩
                have n3_ : Aside0 (Below w.heap.size w w23) := ⟨h3_⟩
                clear HO254 HO258 HO262 HB h0_ h1_ h2_ h3_
                have HO254 := n0_
                have HO258 := n1_
                have HO262 := n2_
                have HB := n3_
                clear n0_ n1_ n2_ n3_
                have hHeld := trivial
                refine norm_ (a' := ?_) ?_ ?_
                rotate_left
                ·simp only [putAll, Act.put, sA_, sB_, sC_]
                 rfl
                refine one_ (i := 5) (N := some 40) L8_ rfl rfl (one_of HT_.out (by kernel_rfl)) (by decide) (fun K hK => ?_)
                refine Kd.R_make_step (Kd.int .u8) _ 5 (by rfl) (N := 40) rfl 23 _ _ rfl 7 rfl rfl Try.underlying23 (.int .u8 0) 1 info5 rfl (by decide) (by omega) 0 (ok := fun _ => True) (okp := fun _ => True) rfl (fun _ hk => hk) trivial (by omega) (by omega) (Below.refl _ _) (Nat.le_refl _) ?_
                intro v264 w24 ho25 hb hg_ hnew_
                clear hg_ hnew_
                (first | rw [← Ny263.out] at ho25 | (simp only [Int.reduceToNat] at ho25; rw [← Ny263.out] at ho25))
                have n0_ := Aside0.mk (Kd.R_elder' (mv2_ HO254.out) (Kd.R_base ho25) hb)
                have n1_ := Aside0.mk (Kd.R_elder' (mv2_ HO258.out) (Kd.R_base ho25) hb)
                have n2_ := Aside0.mk (Kd.R_elder' (mv2_ HO262.out) (Kd.R_base ho25) hb)
                have n3_ := Aside0.mk (Kd.R_lower (Kd.R_new' (Kd.R_new' (Kd.R_new' ho25 (Kd.R_lt (mv2_ HO254.out))) (Kd.R_lt (mv2_ HO258.out))) (Kd.R_lt (mv2_ HO262.out))) (below_size (bq_ HB.out)))
                have n4_ := Aside0.mk (below_step (bq_ HB.out) hb)
                clear HO254 HO258 HO262 HB
                have HO254 := n0_
                have HO258 := n1_
                have HO262 := n2_
                have HO265 := n3_
                have HB := n4_
                clear n0_ n1_ n2_ n3_ n4_ hb ho25
                refine hK.out _ _ trivial (fun hHeld => ?_)
                clear hK K
                refine norm_ (a' := ?_) ?_ ?_
                rotate_left
                ·show Act.put _ (some 40) _ = _
                 simp only [Act.put, sA_, sB_, sC_, i64_w]
                 rfl
                exact norm_ (by simp only [putAll, Act.put, sA_, sB_, sC_] <;> rfl) (hJ4_5_8 (v264) _ ⟨(by (with_reducible repeat (first | apply Kd.R_alloc | apply Kd.R_drewN | apply Kd.R_drew)); exact Kd.R_mono HO254.out (fun _ hk => ⟨hk.1.1, ⟨hk.1.2, hk.2⟩⟩)), (by (with_reducible repeat (first | apply Kd.R_alloc | apply Kd.R_drewN | apply Kd.R_drew)); exact Kd.R_mono HO258.out (fun _ hk => ⟨hk.1.1, ⟨hk.1.2, hk.2⟩⟩)), (by (with_reducible repeat (first | apply Kd.R_alloc | apply Kd.R_drewN | apply Kd.R_drew)); exact Kd.R_mono HO262.out (fun _ hk => ⟨hk.1.1, ⟨hk.1.2, hk.2⟩⟩)), (by (with_reducible repeat (first | apply Kd.R_alloc | apply Kd.R_drewN | apply Kd.R_drew)); exact Kd.R_mono HO265.out (fun _ hk => ⟨hk.1.1.2, ⟨hk.1.2, hk.2⟩⟩)), (bq_ HB.out)⟩)
              ·skip
               rintro v264 w24 ⟨h0_, h1_, h2_, h3_, h4_⟩
               have n0_ : Aside0 (Kd.R (Kd.int .u8) 5 w24 w.heap.size (fun k_ => some k_ ≠ (v257 : Value).ownBlock ∧ some k_ ≠ (.slice Ao19 t259.length co19 : Value).ownBlock ∧ some k_ ≠ (v264 : Value).ownBlock) v253 t251) := ⟨h0_⟩
               have n1_ : Aside0 (Kd.R (Kd.int .u8) 5 w24 w.heap.size (fun k_ => some k_ ≠ (v253 : Value).ownBlock ∧ some k_ ≠ (.slice Ao19 t259.length co19 : Value).ownBlock ∧ some k_ ≠ (v264 : Value).ownBlock) v257 t255) := ⟨h1_⟩
               have n2_ : Aside0 (Kd.R (Kd.int .u8) 5 w24 w.heap.size (fun k_ => some k_ ≠ (v253 : Value).ownBlock ∧ some k_ ≠ (v257 : Value).ownBlock ∧ some k_ ≠ (v264 : Value).ownBlock) (.slice Ao19 t259.length co19) t259) := ⟨h2_⟩
               have n3_ : Aside0 (Kd.R (Kd.int .u8) 5 w24 w.heap.size (fun k_ => some k_ ≠ (v253 : Value).ownBlock ∧ some k_ ≠ (v257 : Value).ownBlock ∧ some k_ ≠ (.slice Ao19 t259.length co19 : Value).ownBlock) v264 y263) := ⟨h3_⟩
               have n4_ : Aside0 (Below w.heap.size w w24) := ⟨h4_⟩
               clear HO254 HO258 HO262 HB h0_ h1_ h2_ h3_ h4_
               have HO254 := n0_
               have HO258 := n1_
               have HO262 := n2_
               have HO265 := n3_
               have HB := n4_
               clear n0_ n1_ n2_ n3_ n4_
               have hHeld := trivial
               refine norm_ (a' := ?_) ?_ ?_
               rotate_left
               ·simp only [putAll, Act.put, sA_, sB_, sC_]
                rfl
               refine two_ (i := 6) (j := 8) (Ni := some 41) (Nj := some 43) L7_ L8_ rfl rfl rfl rfl (two_of HT_.out (by kernel_rfl)) (by decide) (by decide) (fun K hK => ?_) (fun K hK => ?_)
               ·skip
                have hcv25 := own_string (P := Try.prog) Try.underlying23 Try.underlying5 Try.underlying9 (Kd.own_of_R HO265.out)
                refine value_ (w1 := ?_) (v := ?_) (by rfl) rfl ?_ ?_
                rotate_left 2
                ·go_simp
                 constructor
                 ·rfl
                 ·rfl
                clear hcv25
                refine hK.out _ _ trivial (fun hHeld => ?_)
                clear hK K
                refine norm_ (a' := ?_) ?_ ?_
                rotate_left
                ·show Act.put _ (some 41) _ = _
                 simp only [Act.put, sA_, sB_, sC_, i64_w]
                 rfl
                exact norm_ (by simp only [putAll, Act.put, sA_, sB_, sC_] <;> rfl) (hJ4_5_6 (v264) _ ⟨(mv2_ HO254.out), (mv2_ HO258.out), (mv2_ HO262.out), (mv2_ HO265.out), (bq_ HB.out)⟩)
               ·skip
                have hcv25 := own_string (P := Try.prog) Try.underlying23 Try.underlying5 Try.underlying9 (Kd.own_of_R HO254.out)
                refine value_ (w1 := ?_) (v := ?_) (by rfl) rfl ?_ ?_
                rotate_left 2
                ·go_simp
                 constructor
                 ·rfl
                 ·rfl
                clear hcv25
                refine hK.out _ _ trivial (fun hHeld => ?_)
                clear hK K
                refine norm_ (a' := ?_) ?_ ?_
                rotate_left
                ·show Act.put _ (some 43) _ = _
                 simp only [Act.put, sA_, sB_, sC_, i64_w]
                 rfl
                exact norm_ (by simp only [putAll, Act.put, sA_, sB_, sC_] <;> rfl) (hJ4_5_8 (v264) _ ⟨(mv2_ HO254.out), (mv2_ HO258.out), (mv2_ HO262.out), (mv2_ HO265.out), (bq_ HB.out)⟩)
             ·skip
              rintro v264 w25 ⟨h0_, h1_, h2_, h3_, h4_⟩
              have n0_ : Aside0 (Kd.R (Kd.int .u8) 5 w25 w.heap.size (fun k_ => some k_ ≠ (v257 : Value).ownBlock ∧ some k_ ≠ (.slice Ao19 t259.length co19 : Value).ownBlock ∧ some k_ ≠ (v264 : Value).ownBlock) v253 t251) := ⟨h0_⟩
              have n1_ : Aside0 (Kd.R (Kd.int .u8) 5 w25 w.heap.size (fun k_ => some k_ ≠ (v253 : Value).ownBlock ∧ some k_ ≠ (.slice Ao19 t259.length co19 : Value).ownBlock ∧ some k_ ≠ (v264 : Value).ownBlock) v257 t255) := ⟨h1_⟩
              have n2_ : Aside0 (Kd.R (Kd.int .u8) 5 w25 w.heap.size (fun k_ => some k_ ≠ (v253 : Value).ownBlock ∧ some k_ ≠ (v257 : Value).ownBlock ∧ some k_ ≠ (v264 : Value).ownBlock) (.slice Ao19 t259.length co19) t259) := ⟨h2_⟩
              have n3_ : Aside0 (Kd.R (Kd.int .u8) 5 w25 w.heap.size (fun k_ => some k_ ≠ (v253 : Value).ownBlock ∧ some k_ ≠ (v257 : Value).ownBlock ∧ some k_ ≠ (.slice Ao19 t259.length co19 : Value).ownBlock) v264 y263) := ⟨h3_⟩
              have n4_ : Aside0 (Below w.heap.size w w25) := ⟨h4_⟩
              clear HO254 HO258 HO262 HB h0_ h1_ h2_ h3_ h4_
              have HO254 := n0_
              have HO258 := n1_
              have HO262 := n2_
              have HO265 := n3_
              have HB := n4_
              clear n0_ n1_ n2_ n3_ n4_
              have hHeld := trivial
              refine norm_ (a' := ?_) ?_ ?_
              rotate_left
              ·simp only [putAll, Act.put, sA_, sB_, sC_]
               rfl
              refine one_ (i := 4) (N := some 39) L6_ rfl rfl (one_of HT_.out (by kernel_rfl)) (by decide) (fun K hK => ?_)
              have hcv26 := own_string (P := Try.prog) Try.underlying23 Try.underlying5 Try.underlying9 (Kd.own_of_R HO262.out)
              refine value_ (w1 := ?_) (v := ?_) (by rfl) rfl ?_ ?_
              rotate_left 2
              ·go_simp
               constructor
               ·rfl
               ·rfl
              clear hcv26
              refine hK.out _ _ trivial (fun hHeld => ?_)
              clear hK K
              refine norm_ (a' := ?_) ?_ ?_
              rotate_left
              ·show Act.put _ (some 39) _ = _
               simp only [Act.put, sA_, sB_, sC_, i64_w]
               rfl
              exact norm_ (by simp only [putAll, Act.put, sA_, sB_, sC_] <;> rfl) (hJ4_5_6_8 (v264) _ ⟨(mv2_ HO254.out), (mv2_ HO258.out), (mv2_ HO262.out), (mv2_ HO265.out), (bq_ HB.out)⟩)
            ·skip
             rintro v264 w25 ⟨h0_, h1_, h2_, h3_, h4_⟩
             have n0_ : Aside0 (Kd.R (Kd.int .u8) 5 w25 w.heap.size (fun k_ => some k_ ≠ (v257 : Value).ownBlock ∧ some k_ ≠ (.slice Ao19 t259.length co19 : Value).ownBlock ∧ some k_ ≠ (v264 : Value).ownBlock) v253 t251) := ⟨h0_⟩
             have n1_ : Aside0 (Kd.R (Kd.int .u8) 5 w25 w.heap.size (fun k_ => some k_ ≠ (v253 : Value).ownBlock ∧ some k_ ≠ (.slice Ao19 t259.length co19 : Value).ownBlock ∧ some k_ ≠ (v264 : Value).ownBlock) v257 t255) := ⟨h1_⟩
             have n2_ : Aside0 (Kd.R (Kd.int .u8) 5 w25 w.heap.size (fun k_ => some k_ ≠ (v253 : Value).ownBlock ∧ some k_ ≠ (v257 : Value).ownBlock ∧ some k_ ≠ (v264 : Value).ownBlock) (.slice Ao19 t259.length co19) t259) := ⟨h2_⟩
             have n3_ : Aside0 (Kd.R (Kd.int .u8) 5 w25 w.heap.size (fun k_ => some k_ ≠ (v253 : Value).ownBlock ∧ some k_ ≠ (v257 : Value).ownBlock ∧ some k_ ≠ (.slice Ao19 t259.length co19 : Value).ownBlock) v264 y263) := ⟨h3_⟩
             have n4_ : Aside0 (Below w.heap.size w w25) := ⟨h4_⟩
             clear HO254 HO258 HO262 HB h0_ h1_ h2_ h3_ h4_
             have HO254 := n0_
             have HO258 := n1_
             have HO262 := n2_
             have HO265 := n3_
             have HB := n4_
             clear n0_ n1_ n2_ n3_ n4_
             have hHeld := trivial
             refine norm_ (a' := ?_) ?_ ?_
             rotate_left
             ·simp only [putAll, Act.put, sA_, sB_, sC_]
              rfl
             refine one_ (i := 6) (N := some 41) L18_ rfl rfl (one_of HT_.out (by kernel_rfl)) (by decide) (fun K hK => ?_)
             have hcv26 := own_string (P := Try.prog) Try.underlying23 Try.underlying5 Try.underlying9 (Kd.own_of_R HO265.out)
             refine value_ (w1 := ?_) (v := ?_) (by rfl) rfl ?_ ?_
             rotate_left 2
             ·go_simp
              constructor
              ·rfl
              ·rfl
             clear hcv26
             refine hK.out _ _ trivial (fun hHeld => ?_)
             clear hK K
             refine norm_ (a' := ?_) ?_ ?_
             rotate_left
             ·show Act.put _ (some 41) _ = _
              simp only [Act.put, sA_, sB_, sC_, i64_w]
              rfl
             refine pure_ (i := 9) (N := some 44) (v := ?_) (a' := ?_) L6_ rfl rfl (any_of HT_.out (by kernel_rfl)) (fun _ _ _ h => h) (Or.inl ⟨by rfl, ?_⟩) ?_ ?_
             rotate_left
             ·intro w'
              go_simp
              with_reducible rfl
             rotate_left
             ·simp only [Act.put, sA_, sB_, sC_, i64_w]
              rfl
             exact norm_ (by simp only [putAll, Act.put, sA_, sB_, sC_] <;> rfl) (hJ4_5_6_8 (v264) _ ⟨(mv2_ HO254.out), (mv2_ HO258.out), (mv2_ HO262.out), (mv2_ HO265.out), (bq_ HB.out)⟩)
           ·skip
            rintro v264 w25 ⟨h0_, h1_, h2_, h3_, h4_⟩
            have n0_ : Aside0 (Kd.R (Kd.int .u8) 5 w25 w.heap.size (fun k_ => some k_ ≠ (v257 : Value).ownBlock ∧ some k_ ≠ (.slice Ao19 t259.length co19 : Value).ownBlock ∧ some k_ ≠ (v264 : Value).ownBlock) v253 t251) := ⟨h0_⟩
            have n1_ : Aside0 (Kd.R (Kd.int .u8) 5 w25 w.heap.size (fun k_ => some k_ ≠ (v253 : Value).ownBlock ∧ some k_ ≠ (.slice Ao19 t259.length co19 : Value).ownBlock ∧ some k_ ≠ (v264 : Value).ownBlock) v257 t255) := ⟨h1_⟩
            have n2_ : Aside0 (Kd.R (Kd.int .u8) 5 w25 w.heap.size (fun k_ => some k_ ≠ (v253 : Value).ownBlock ∧ some k_ ≠ (v257 : Value).ownBlock ∧ some k_ ≠ (v264 : Value).ownBlock) (.slice Ao19 t259.length co19) t259) := ⟨h2_⟩
            have n3_ : Aside0 (Kd.R (Kd.int .u8) 5 w25 w.heap.size (fun k_ => some k_ ≠ (v253 : Value).ownBlock ∧ some k_ ≠ (v257 : Value).ownBlock ∧ some k_ ≠ (.slice Ao19 t259.length co19 : Value).ownBlock) v264 y263) := ⟨h3_⟩
            have n4_ : Aside0 (Below w.heap.size w w25) := ⟨h4_⟩
            clear HO254 HO258 HO262 HB h0_ h1_ h2_ h3_ h4_
            have HO254 := n0_
            have HO258 := n1_
            have HO262 := n2_
            have HO265 := n3_
            have HB := n4_
            clear n0_ n1_ n2_ n3_ n4_
            have hHeld := trivial
            refine norm_ (a' := ?_) ?_ ?_
            rotate_left
            ·simp only [putAll, Act.put, sA_, sB_, sC_]
             rfl
            refine one_ (i := 8) (N := some 43) L18_ rfl rfl (one_of HT_.out (by kernel_rfl)) (by decide) (fun K hK => ?_)
            have hcv26 := own_string (P := Try.prog) Try.underlying23 Try.underlying5 Try.underlying9 (Kd.own_of_R HO254.out)
            refine value_ (w1 := ?_) (v := ?_) (by rfl) rfl ?_ ?_
            rotate_left 2
            ·go_simp
             constructor
             ·rfl
             ·rfl
            clear hcv26
            refine hK.out _ _ trivial (fun hHeld => ?_)
            clear hK K
            refine norm_ (a' := ?_) ?_ ?_
            rotate_left
            ·show Act.put _ (some 43) _ = _
             simp only [Act.put, sA_, sB_, sC_, i64_w]
             rfl
            refine pure_ (i := 9) (N := some 44) (v := ?_) (a' := ?_) L6_ rfl rfl (any_of HT_.out (by kernel_rfl)) (fun _ _ _ h => h) (Or.inl ⟨by rfl, ?_⟩) ?_ ?_
            rotate_left
            ·intro w'
             go_simp
             with_reducible rfl
            rotate_left
            ·simp only [Act.put, sA_, sB_, sC_, i64_w]
             rfl
            exact norm_ (by simp only [putAll, Act.put, sA_, sB_, sC_] <;> rfl) (hJ4_5_6_8 (v264) _ ⟨(mv2_ HO254.out), (mv2_ HO258.out), (mv2_ HO262.out), (mv2_ HO265.out), (bq_ HB.out)⟩)
          rintro v264 w26 ⟨h0_, h1_, h2_, h3_, h4_⟩
          have n0_ : Aside0 (Kd.R (Kd.int .u8) 5 w26 w.heap.size (fun k_ => some k_ ≠ (v257 : Value).ownBlock ∧ some k_ ≠ (.slice Ao19 t259.length co19 : Value).ownBlock ∧ some k_ ≠ (v264 : Value).ownBlock) v253 t251) := ⟨h0_⟩
          have n1_ : Aside0 (Kd.R (Kd.int .u8) 5 w26 w.heap.size (fun k_ => some k_ ≠ (v253 : Value).ownBlock ∧ some k_ ≠ (.slice Ao19 t259.length co19 : Value).ownBlock ∧ some k_ ≠ (v264 : Value).ownBlock) v257 t255) := ⟨h1_⟩
          have n2_ : Aside0 (Kd.R (Kd.int .u8) 5 w26 w.heap.size (fun k_ => some k_ ≠ (v253 : Value).ownBlock ∧ some k_ ≠ (v257 : Value).ownBlock ∧ some k_ ≠ (v264 : Value).ownBlock) (.slice Ao19 t259.length co19) t259) := ⟨h2_⟩
          have n3_ : Aside0 (Kd.R (Kd.int .u8) 5 w26 w.heap.size (fun k_ => some k_ ≠ (v253 : Value).ownBlock ∧ some k_ ≠ (v257 : Value).ownBlock ∧ some k_ ≠ (.slice Ao19 t259.length co19 : Value).ownBlock) v264 y263) := ⟨h3_⟩
          have n4_ : Aside0 (Below w.heap.size w w26) := ⟨h4_⟩
          clear HO254 HO258 HO262 HB h0_ h1_ h2_ h3_ h4_
          have HO254 := n0_
          have HO258 := n1_
          have HO262 := n2_
          have HO265 := n3_
          have HB := n4_
          clear n0_ n1_ n2_ n3_ n4_
          have hHeld := trivial
          refine norm_ (a' := ?_) ?_ ?_
          rotate_left
          ·simp only [putAll, Act.put, sA_, sB_, sC_]
           rfl
          refine pure_ (i := 10) (N := some 45) (v := ?_) (a' := ?_) L19_ rfl rfl (any_of HT_.out (by kernel_rfl)) (fun _ _ _ h => h) (Or.inl ⟨by rfl, ?_⟩) ?_ ?_
          rotate_left
          ·intro w'
           go_simp
           with_reducible rfl
          rotate_left
          ·simp only [Act.put, sA_, sB_, sC_, i64_w]
           rfl
          refine pure_ (i := 11) (N := some 46) (v := ?_) (a' := ?_) L20_ rfl rfl (any_of HT_.out (by kernel_rfl)) (fun _ _ _ h => h) (Or.inl ⟨by rfl, ?_⟩) ?_ ?_
          rotate_left
          ·intro w'
           go_simp
           with_reducible rfl
          rotate_left
          ·simp only [Act.put, sA_, sB_, sC_, i64_w]
           rfl
          refine pure_ (i := 12) (N := some 47) (v := ?_) (a' := ?_) L21_ rfl rfl (any_of HT_.out (by kernel_rfl)) (fun _ _ _ h => h) (Or.inl ⟨by rfl, ?_⟩) ?_ ?_
          rotate_left
          ·intro w'
           go_simp
           with_reducible rfl
          rotate_left
          ·simp only [Act.put, sA_, sB_, sC_, i64_w]
           rfl
          refine pure_ (i := 13) (N := some 48) (v := undef) (a' := ?_) L22_ rfl rfl (any_of HT_.out (by kernel_rfl)) (fun _ _ _ h => h) (Or.inr ⟨by rfl, rfl⟩) ?_ ?_
          rotate_left
          ·simp only [Act.put, sA_, sB_, sC_, i64_w]
           rfl
          refine pure_ (i := 14) (N := some 49) (v := undef) (a' := ?_) L23_ rfl rfl (any_of HT_.out (by kernel_rfl)) (fun _ _ _ h => h) (Or.inr ⟨by rfl, rfl⟩) ?_ ?_
          rotate_left
          ·simp only [Act.put, sA_, sB_, sC_, i64_w]
           rfl
          refine pure_ (i := 15) (N := some 50) (v := undef) (a' := ?_) L24_ rfl rfl (any_of HT_.out (by kernel_rfl)) (fun _ _ _ h => h) (Or.inr ⟨by rfl, rfl⟩) ?_ ?_
          rotate_left
          ·simp only [Act.put, sA_, sB_, sC_, i64_w]
           rfl
          refine pure_ (i := 16) (N := some 51) (v := undef) (a' := ?_) L25_ rfl rfl (any_of HT_.out (by kernel_rfl)) (fun _ _ _ h => h) (Or.inr ⟨by rfl, rfl⟩) ?_ ?_
          rotate_left
          ·simp only [Act.put, sA_, sB_, sC_, i64_w]
           rfl
          refine pure_ (i := 17) (N := some 52) (v := undef) (a' := ?_) L26_ rfl rfl (any_of HT_.out (by kernel_rfl)) (fun _ _ _ h => h) (Or.inr ⟨by rfl, rfl⟩) ?_ ?_
          rotate_left
          ·simp only [Act.put, sA_, sB_, sC_, i64_w]
           rfl
          refine pure_ (i := 18) (N := some 53) (v := undef) (a' := ?_) L27_ rfl rfl (any_of HT_.out (by kernel_rfl)) (fun _ _ _ h => h) (Or.inr ⟨by rfl, rfl⟩) ?_ ?_
          rotate_left
          ·simp only [Act.put, sA_, sB_, sC_, i64_w]
           rfl
          refine pure_ (i := 19) (N := some 54) (v := undef) (a' := ?_) L28_ rfl rfl (any_of HT_.out (by kernel_rfl)) (fun _ _ _ h => h) (Or.inr ⟨by rfl, rfl⟩) ?_ ?_
          rotate_left
          ·simp only [Act.put, sA_, sB_, sC_, i64_w]
           rfl
          refine pure_ (i := 20) (N := some 55) (v := undef) (a' := ?_) L29_ rfl rfl (any_of HT_.out (by kernel_rfl)) (fun _ _ _ h => h) (Or.inr ⟨by rfl, rfl⟩) ?_ ?_
          rotate_left
          ·simp only [Act.put, sA_, sB_, sC_, i64_w]
           rfl
          refine pure_ (i := 21) (N := some 56) (v := undef) (a' := ?_) L30_ rfl rfl (any_of HT_.out (by kernel_rfl)) (fun _ _ _ h => h) (Or.inr ⟨by rfl, rfl⟩) ?_ ?_
          rotate_left
          ·simp only [Act.put, sA_, sB_, sC_, i64_w]
           rfl
          refine pure_ (i := 22) (N := some 57) (v := undef) (a' := ?_) L31_ rfl rfl (any_of HT_.out (by kernel_rfl)) (fun _ _ _ h => h) (Or.inr ⟨by rfl, rfl⟩) ?_ ?_
          rotate_left
          ·simp only [Act.put, sA_, sB_, sC_, i64_w]
           rfl
          refine pure_ (i := 23) (N := some 58) (v := ?_) (a' := ?_) L32_ rfl rfl (any_of HT_.out (by kernel_rfl)) (fun _ _ _ h => h) (Or.inl ⟨by rfl, ?_⟩) ?_ ?_
          rotate_left
          ·intro w'
           go_simp
           with_reducible rfl
          rotate_left
          ·simp only [Act.put, sA_, sB_, sC_, i64_w]
           rfl
          refine pure_ (i := 24) (N := some 10) (v := ?_) (a' := ?_) L33_ rfl rfl (any_of HT_.out (by kernel_rfl)) (fun _ _ _ h => h) (Or.inl ⟨by rfl, ?_⟩) ?_ ?_
          rotate_left
          ·intro w'
           go_simp
           with_reducible rfl
          rotate_left
          ·simp only [Act.put, sA_, sB_, sC_, i64_w]
           rfl
          refine done_ (done_of HT_.out (by kernel_rfl)) ?_
          try go_wp2
          have n0_ := Aside0.mk (Kd.R_drew HO254.out)
          have n1_ := Aside0.mk (Kd.R_drew HO258.out)
          have n2_ := Aside0.mk (Kd.R_drew HO262.out)
          have n3_ := Aside0.mk (Kd.R_drew HO265.out)
          have n4_ := Aside0.mk (below_drew1 HB.out)
          clear HO254 HO258 HO262 HO265 HB
          have HO254 := n0_
          have HO258 := n1_
          have HO262 := n2_
          have HO265 := n3_
          have HB := n4_
          clear n0_ n1_ n2_ n3_ n4_
          refine start_ (n := 25) (S := fun w' => True) (ds := []) L0_ (by kernel_rfl) rfl rfl trivial (fun hHeld => ?_); refine with_tabW fullerlaw08_PackWide.tab8 fullerlaw08_PackWide.bits8 (fun HT_ HW_ => ?_)
          generalize w26.drew = w27 at HO254 HO258 HO262 HO265 HB hHeld ⊢
          refine pure_ (i := 0) (N := some 59) (v := ?_) (a' := ?_) L1_ rfl rfl (any_of HT_.out (by kernel_rfl)) (fun _ _ _ h => h) (Or.inl ⟨by rfl, ?_⟩) ?_ ?_
          rotate_left
          ·intro w'
           go_simp
           with_reducible rfl
          rotate_left
          ·simp only [Act.put, sA_, sB_, sC_, i64_w]
           rfl
          refine pure_ (i := 1) (N := some 60) (v := ?_) (a' := ?_) L2_ rfl rfl (any_of HT_.out (by kernel_rfl)) (fun _ _ _ h => h) (Or.inl ⟨by rfl, ?_⟩) ?_ ?_
          rotate_left
          ·intro w'
           go_simp
           with_reducible rfl
          rotate_left
          ·simp only [Act.put, sA_, sB_, sC_, i64_w]
           rfl
          refine pure_ (i := 2) (N := some 61) (v := ?_) (a' := ?_) L3_ rfl rfl (any_of HT_.out (by kernel_rfl)) (fun _ _ _ h => h) (Or.inl ⟨by rfl, ?_⟩) ?_ ?_
          rotate_left
          ·intro w'
           go_simp
           with_reducible rfl
          rotate_left
          ·simp only [Act.put, sA_, sB_, sC_, i64_w]
           rfl
          refine pure_ (i := 3) (N := some 62) (v := ?_) (a' := ?_) L4_ rfl rfl (any_of HT_.out (by kernel_rfl)) (fun _ _ _ h => h) (Or.inl ⟨by rfl, ?_⟩) ?_ ?_
          rotate_left
          ·intro w'
           go_simp
           with_reducible rfl
          rotate_left
          ·simp only [Act.put, sA_, sB_, sC_, i64_w]
           rfl
          refine pure_ (i := 7) (N := some 66) (v := ?_) (a' := ?_) L5_ rfl rfl (any_of HT_.out (by kernel_rfl)) (fun _ _ _ h => h) (Or.inl ⟨by rfl, ?_⟩) ?_ ?_
          rotate_left
          ·intro w'
           go_simp
           with_reducible rfl
          rotate_left
          ·simp only [Act.put, sA_, sB_, sC_, i64_w]
           rfl
          refine join_ (σ := Value) 15 L6_ (fun s_ => [(63, .string (strOfNums t259)), (64, s_), (65, .string (strOfNums y266)), (67, .string (strOfNums t255)), (68, .string ((strOfNums y266) ++ (strOfNums t255)))]) (fun s_ w' => (Kd.R (Kd.int .u8) 5 w' w.heap.size (fun k_ => some k_ ≠ (v257 : Value).ownBlock ∧ some k_ ≠ (.slice Ao19 t259.length co19 : Value).ownBlock ∧ some k_ ≠ (v264 : Value).ownBlock ∧ some k_ ≠ (s_ : Value).ownBlock) v253 t251) ∧ (Kd.R (Kd.int .u8) 5 w' w.heap.size (fun k_ => some k_ ≠ (v253 : Value).ownBlock ∧ some k_ ≠ (.slice Ao19 t259.length co19 : Value).ownBlock ∧ some k_ ≠ (v264 : Value).ownBlock ∧ some k_ ≠ (s_ : Value).ownBlock) v257 t255) ∧ (Kd.R (Kd.int .u8) 5 w' w.heap.size (fun k_ => some k_ ≠ (v253 : Value).ownBlock ∧ some k_ ≠ (v257 : Value).ownBlock ∧ some k_ ≠ (v264 : Value).ownBlock ∧ some k_ ≠ (s_ : Value).ownBlock) (.slice Ao19 t259.length co19) t259) ∧ (Kd.R (Kd.int .u8) 5 w' w.heap.size (fun k_ => some k_ ≠ (v253 : Value).ownBlock ∧ some k_ ≠ (v257 : Value).ownBlock ∧ some k_ ≠ (.slice Ao19 t259.length co19 : Value).ownBlock ∧ some k_ ≠ (s_ : Value).ownBlock) v264 y263) ∧ (Kd.R (Kd.int .u8) 5 w' w.heap.size (fun k_ => some k_ ≠ (v253 : Value).ownBlock ∧ some k_ ≠ (v257 : Value).ownBlock ∧ some k_ ≠ (.slice Ao19 t259.length co19 : Value).ownBlock ∧ some k_ ≠ (v264 : Value).ownBlock) s_ y266) ∧ (Below w.heap.size w w')) ?_ ?_
          rotate_left
          ·intro hJ4_5_6_8
           refine join_ (σ := Value) 17 L7_ (fun s_ => [(63, .string (strOfNums t259)), (64, s_), (65, .string (strOfNums y266))]) (fun s_ w' => (Kd.R (Kd.int .u8) 5 w' w.heap.size (fun k_ => some k_ ≠ (v257 : Value).ownBlock ∧ some k_ ≠ (.slice Ao19 t259.length co19 : Value).ownBlock ∧ some k_ ≠ (v264 : Value).ownBlock ∧ some k_ ≠ (s_ : Value).ownBlock) v253 t251) ∧ (Kd.R (Kd.int .u8) 5 w' w.heap.size (fun k_ => some k_ ≠ (v253 : Value).ownBlock ∧ some k_ ≠ (.slice Ao19 t259.length co19 : Value).ownBlock ∧ some k_ ≠ (v264 : Value).ownBlock ∧ some k_ ≠ (s_ : Value).ownBlock) v257 t255) ∧ (Kd.R (Kd.int .u8) 5 w' w.heap.size (fun k_ => some k_ ≠ (v253 : Value).ownBlock ∧ some k_ ≠ (v257 : Value).ownBlock ∧ some k_ ≠ (v264 : Value).ownBlock ∧ some k_ ≠ (s_ : Value).ownBlock) (.slice Ao19 t259.length co19) t259) ∧ (Kd.R (Kd.int .u8) 5 w' w.heap.size (fun k_ => some k_ ≠ (v253 : Value).ownBlock ∧ some k_ ≠ (v257 : Value).ownBlock ∧ some k_ ≠ (.slice Ao19 t259.length co19 : Value).ownBlock ∧ some k_ ≠ (s_ : Value).ownBlock) v264 y263) ∧ (Kd.R (Kd.int .u8) 5 w' w.heap.size (fun k_ => some k_ ≠ (v253 : Value).ownBlock ∧ some k_ ≠ (v257 : Value).ownBlock ∧ some k_ ≠ (.slice Ao19 t259.length co19 : Value).ownBlock ∧ some k_ ≠ (v264 : Value).ownBlock) s_ y266) ∧ (Below w.heap.size w w')) ?_ ?_
           rotate_left
           ·intro hJ4_5_6
            refine join_ (σ := Value) 17 L8_ (fun s_ => [(63, .string (strOfNums t259)), (64, s_), (67, .string (strOfNums t255))]) (fun s_ w' => (Kd.R (Kd.int .u8) 5 w' w.heap.size (fun k_ => some k_ ≠ (v257 : Value).ownBlock ∧ some k_ ≠ (.slice Ao19 t259.length co19 : Value).ownBlock ∧ some k_ ≠ (v264 : Value).ownBlock ∧ some k_ ≠ (s_ : Value).ownBlock) v253 t251) ∧ (Kd.R (Kd.int .u8) 5 w' w.heap.size (fun k_ => some k_ ≠ (v253 : Value).ownBlock ∧ some k_ ≠ (.slice Ao19 t259.length co19 : Value).ownBlock ∧ some k_ ≠ (v264 : Value).ownBlock ∧ some k_ ≠ (s_ : Value).ownBlock) v257 t255) ∧ (Kd.R (Kd.int .u8) 5 w' w.heap.size (fun k_ => some k_ ≠ (v253 : Value).ownBlock ∧ some k_ ≠ (v257 : Value).ownBlock ∧ some k_ ≠ (v264 : Value).ownBlock ∧ some k_ ≠ (s_ : Value).ownBlock) (.slice Ao19 t259.length co19) t259) ∧ (Kd.R (Kd.int .u8) 5 w' w.heap.size (fun k_ => some k_ ≠ (v253 : Value).ownBlock ∧ some k_ ≠ (v257 : Value).ownBlock ∧ some k_ ≠ (.slice Ao19 t259.length co19 : Value).ownBlock ∧ some k_ ≠ (s_ : Value).ownBlock) v264 y263) ∧ (Kd.R (Kd.int .u8) 5 w' w.heap.size (fun k_ => some k_ ≠ (v253 : Value).ownBlock ∧ some k_ ≠ (v257 : Value).ownBlock ∧ some k_ ≠ (.slice Ao19 t259.length co19 : Value).ownBlock ∧ some k_ ≠ (v264 : Value).ownBlock) s_ y266) ∧ (Below w.heap.size w w')) ?_ ?_
            rotate_left
            ·intro hJ4_5_8
             refine join_ (σ := Value) 16 L9_ (fun s_ => [(64, s_), (65, .string (strOfNums y266)), (67, .string (strOfNums t255)), (68, .string ((strOfNums y266) ++ (strOfNums t255)))]) (fun s_ w' => (Kd.R (Kd.int .u8) 5 w' w.heap.size (fun k_ => some k_ ≠ (v257 : Value).ownBlock ∧ some k_ ≠ (.slice Ao19 t259.length co19 : Value).ownBlock ∧ some k_ ≠ (v264 : Value).ownBlock ∧ some k_ ≠ (s_ : Value).ownBlock) v253 t251) ∧ (Kd.R (Kd.int .u8) 5 w' w.heap.size (fun k_ => some k_ ≠ (v253 : Value).ownBlock ∧ some k_ ≠ (.slice Ao19 t259.length co19 : Value).ownBlock ∧ some k_ ≠ (v264 : Value).ownBlock ∧ some k_ ≠ (s_ : Value).ownBlock) v257 t255) ∧ (Kd.R (Kd.int .u8) 5 w' w.heap.size (fun k_ => some k_ ≠ (v253 : Value).ownBlock ∧ some k_ ≠ (v257 : Value).ownBlock ∧ some k_ ≠ (v264 : Value).ownBlock ∧ some k_ ≠ (s_ : Value).ownBlock) (.slice Ao19 t259.length co19) t259) ∧ (Kd.R (Kd.int .u8) 5 w' w.heap.size (fun k_ => some k_ ≠ (v253 : Value).ownBlock ∧ some k_ ≠ (v257 : Value).ownBlock ∧ some k_ ≠ (.slice Ao19 t259.length co19 : Value).ownBlock ∧ some k_ ≠ (s_ : Value).ownBlock) v264 y263) ∧ (Kd.R (Kd.int .u8) 5 w' w.heap.size (fun k_ => some k_ ≠ (v253 : Value).ownBlock ∧ some k_ ≠ (v257 : Value).ownBlock ∧ some k_ ≠ (.slice Ao19 t259.length co19 : Value).ownBlock ∧ some k_ ≠ (v264 : Value).ownBlock) s_ y266) ∧ (Below w.heap.size w w')) ?_ ?_
             rotate_left
             ·intro hJ5_6_8
              refine join_ (σ := Value) 18 L10_ (fun s_ => [(63, .string (strOfNums t259)), (64, s_)]) (fun s_ w' => (Kd.R (Kd.int .u8) 5 w' w.heap.size (fun k_ => some k_ ≠ (v257 : Value).ownBlock ∧ some k_ ≠ (.slice Ao19 t259.length co19 : Value).ownBlock ∧ some k_ ≠ (v264 : Value).ownBlock ∧ some k_ ≠ (s_ : Value).ownBlock) v253 t251) ∧ (Kd.R (Kd.int .u8) 5 w' w.heap.size (fun k_ => some k_ ≠ (v253 : Value).ownBlock ∧ some k_ ≠ (.slice Ao19 t259.length co19 : Value).ownBlock ∧ some k_ ≠ (v264 : Value).ownBlock ∧ some k_ ≠ (s_ : Value).ownBlock) v257 t255) ∧ (Kd.R (Kd.int .u8) 5 w' w.heap.size (fun k_ => some k_ ≠ (v253 : Value).ownBlock ∧ some k_ ≠ (v257 : Value).ownBlock ∧ some k_ ≠ (v264 : Value).ownBlock ∧ some k_ ≠ (s_ : Value).ownBlock) (.slice Ao19 t259.length co19) t259) ∧ (Kd.R (Kd.int .u8) 5 w' w.heap.size (fun k_ => some k_ ≠ (v253 : Value).ownBlock ∧ some k_ ≠ (v257 : Value).ownBlock ∧ some k_ ≠ (.slice Ao19 t259.length co19 : Value).ownBlock ∧ some k_ ≠ (s_ : Value).ownBlock) v264 y263) ∧ (Kd.R (Kd.int .u8) 5 w' w.heap.size (fun k_ => some k_ ≠ (v253 : Value).ownBlock ∧ some k_ ≠ (v257 : Value).ownBlock ∧ some k_ ≠ (.slice Ao19 t259.length co19 : Value).ownBlock ∧ some k_ ≠ (v264 : Value).ownBlock) s_ y266) ∧ (Below w.heap.size w w')) ?_ ?_
              rotate_left
              ·intro hJ4_5
               refine join_ (σ := Unit) 18 L11_ (fun s_ => [(63, .string (strOfNums t259)), (67, .string (strOfNums t255))]) (fun s_ w' => (Kd.R (Kd.int .u8) 5 w' w.heap.size (fun k_ => some k_ ≠ (v257 : Value).ownBlock ∧ some k_ ≠ (.slice Ao19 t259.length co19 : Value).ownBlock ∧ some k_ ≠ (v264 : Value).ownBlock) v253 t251) ∧ (Kd.R (Kd.int .u8) 5 w' w.heap.size (fun k_ => some k_ ≠ (v253 : Value).ownBlock ∧ some k_ ≠ (.slice Ao19 t259.length co19 : Value).ownBlock ∧ some k_ ≠ (v264 : Value).ownBlock) v257 t255) ∧ (Kd.R (Kd.int .u8) 5 w' w.heap.size (fun k_ => some k_ ≠ (v253 : Value).ownBlock ∧ some k_ ≠ (v257 : Value).ownBlock ∧ some k_ ≠ (v264 : Value).ownBlock) (.slice Ao19 t259.length co19) t259) ∧ (Kd.R (Kd.int .u8) 5 w' w.heap.size (fun k_ => some k_ ≠ (v253 : Value).ownBlock ∧ some k_ ≠ (v257 : Value).ownBlock ∧ some k_ ≠ (.slice Ao19 t259.length co19 : Value).ownBlock) v264 y263) ∧ (Below w.heap.size w w')) ?_ ?_
               rotate_left
               ·intro hJ4_8
                refine join_ (σ := Value) 18 L12_ (fun s_ => [(64, s_), (65, .string (strOfNums y266))]) (fun s_ w' => (Kd.R (Kd.int .u8) 5 w' w.heap.size (fun k_ => some k_ ≠ (v257 : Value).ownBlock ∧ some k_ ≠ (.slice Ao19 t259.length co19 : Value).ownBlock ∧ some k_ ≠ (v264 : Value).ownBlock ∧ some k_ ≠ (s_ : Value).ownBlock) v253 t251) ∧ (Kd.R (Kd.int .u8) 5 w' w.heap.size (fun k_ => some k_ ≠ (v253 : Value).ownBlock ∧ some k_ ≠ (.slice Ao19 t259.length co19 : Value).ownBlock ∧ some k_ ≠ (v264 : Value).ownBlock ∧ some k_ ≠ (s_ : Value).ownBlock) v257 t255) ∧ (Kd.R (Kd.int .u8) 5 w' w.heap.size (fun k_ => some k_ ≠ (v253 : Value).ownBlock ∧ some k_ ≠ (v257 : Value).ownBlock ∧ some k_ ≠ (v264 : Value).ownBlock ∧ some k_ ≠ (s_ : Value).ownBlock) (.slice Ao19 t259.length co19) t259) ∧ (Kd.R (Kd.int .u8) 5 w' w.heap.size (fun k_ => some k_ ≠ (v253 : Value).ownBlock ∧ some k_ ≠ (v257 : Value).ownBlock ∧ some k_ ≠ (.slice Ao19 t259.length co19 : Value).ownBlock ∧ some k_ ≠ (s_ : Value).ownBlock) v264 y263) ∧ (Kd.R (Kd.int .u8) 5 w' w.heap.size (fun k_ => some k_ ≠ (v253 : Value).ownBlock ∧ some k_ ≠ (v257 : Value).ownBlock ∧ some k_ ≠ (.slice Ao19 t259.length co19 : Value).ownBlock ∧ some k_ ≠ (v264 : Value).ownBlock) s_ y266) ∧ (Below w.heap.size w w')) ?_ ?_
                rotate_left
                ·intro hJ5_6
                 refine join_ (σ := Value) 18 L13_ (fun s_ => [(64, s_), (67, .string (strOfNums t255))]) (fun s_ w' => (Kd.R (Kd.int .u8) 5 w' w.heap.size (fun k_ => some k_ ≠ (v257 : Value).ownBlock ∧ some k_ ≠ (.slice Ao19 t259.length co19 : Value).ownBlock ∧ some k_ ≠ (v264 : Value).ownBlock ∧ some k_ ≠ (s_ : Value).ownBlock) v253 t251) ∧ (Kd.R (Kd.int .u8) 5 w' w.heap.size (fun k_ => some k_ ≠ (v253 : Value).ownBlock ∧ some k_ ≠ (.slice Ao19 t259.length co19 : Value).ownBlock ∧ some k_ ≠ (v264 : Value).ownBlock ∧ some k_ ≠ (s_ : Value).ownBlock) v257 t255) ∧ (Kd.R (Kd.int .u8) 5 w' w.heap.size (fun k_ => some k_ ≠ (v253 : Value).ownBlock ∧ some k_ ≠ (v257 : Value).ownBlock ∧ some k_ ≠ (v264 : Value).ownBlock ∧ some k_ ≠ (s_ : Value).ownBlock) (.slice Ao19 t259.length co19) t259) ∧ (Kd.R (Kd.int .u8) 5 w' w.heap.size (fun k_ => some k_ ≠ (v253 : Value).ownBlock ∧ some k_ ≠ (v257 : Value).ownBlock ∧ some k_ ≠ (.slice Ao19 t259.length co19 : Value).ownBlock ∧ some k_ ≠ (s_ : Value).ownBlock) v264 y263) ∧ (Kd.R (Kd.int .u8) 5 w' w.heap.size (fun k_ => some k_ ≠ (v253 : Value).ownBlock ∧ some k_ ≠ (v257 : Value).ownBlock ∧ some k_ ≠ (.slice Ao19 t259.length co19 : Value).ownBlock ∧ some k_ ≠ (v264 : Value).ownBlock) s_ y266) ∧ (Below w.heap.size w w')) ?_ ?_
                 rotate_left
                 ·intro hJ5_8
                  refine join_ (σ := Unit) 19 L14_ (fun s_ => [(63, .string (strOfNums t259))]) (fun s_ w' => (Kd.R (Kd.int .u8) 5 w' w.heap.size (fun k_ => some k_ ≠ (v257 : Value).ownBlock ∧ some k_ ≠ (.slice Ao19 t259.length co19 : Value).ownBlock ∧ some k_ ≠ (v264 : Value).ownBlock) v253 t251) ∧ (Kd.R (Kd.int .u8) 5 w' w.heap.size (fun k_ => some k_ ≠ (v253 : Value).ownBlock ∧ some k_ ≠ (.slice Ao19 t259.length co19 : Value).ownBlock ∧ some k_ ≠ (v264 : Value).ownBlock) v257 t255) ∧ (Kd.R (Kd.int .u8) 5 w' w.heap.size (fun k_ => some k_ ≠ (v253 : Value).ownBlock ∧ some k_ ≠ (v257 : Value).ownBlock ∧ some k_ ≠ (v264 : Value).ownBlock) (.slice Ao19 t259.length co19) t259) ∧ (Kd.R (Kd.int .u8) 5 w' w.heap.size (fun k_ => some k_ ≠ (v253 : Value).ownBlock ∧ some k_ ≠ (v257 : Value).ownBlock ∧ some k_ ≠ (.slice Ao19 t259.length co19 : Value).ownBlock) v264 y263) ∧ (Below w.heap.size w w')) ?_ ?_
                  rotate_left
                  ·intro hJ4
                   refine join_ (σ := Value) 19 L15_ (fun s_ => [(64, s_)]) (fun s_ w' => (Kd.R (Kd.int .u8) 5 w' w.heap.size (fun k_ => some k_ ≠ (v257 : Value).ownBlock ∧ some k_ ≠ (.slice Ao19 t259.length co19 : Value).ownBlock ∧ some k_ ≠ (v264 : Value).ownBlock ∧ some k_ ≠ (s_ : Value).ownBlock) v253 t251) ∧ (Kd.R (Kd.int .u8) 5 w' w.heap.size (fun k_ => some k_ ≠ (v253 : Value).ownBlock ∧ some k_ ≠ (.slice Ao19 t259.length co19 : Value).ownBlock ∧ some k_ ≠ (v264 : Value).ownBlock ∧ some k_ ≠ (s_ : Value).ownBlock) v257 t255) ∧ (Kd.R (Kd.int .u8) 5 w' w.heap.size (fun k_ => some k_ ≠ (v253 : Value).ownBlock ∧ some k_ ≠ (v257 : Value).ownBlock ∧ some k_ ≠ (v264 : Value).ownBlock ∧ some k_ ≠ (s_ : Value).ownBlock) (.slice Ao19 t259.length co19) t259) ∧ (Kd.R (Kd.int .u8) 5 w' w.heap.size (fun k_ => some k_ ≠ (v253 : Value).ownBlock ∧ some k_ ≠ (v257 : Value).ownBlock ∧ some k_ ≠ (.slice Ao19 t259.length co19 : Value).ownBlock ∧ some k_ ≠ (s_ : Value).ownBlock) v264 y263) ∧ (Kd.R (Kd.int .u8) 5 w' w.heap.size (fun k_ => some k_ ≠ (v253 : Value).ownBlock ∧ some k_ ≠ (v257 : Value).ownBlock ∧ some k_ ≠ (.slice Ao19 t259.length co19 : Value).ownBlock ∧ some k_ ≠ (v264 : Value).ownBlock) s_ y266) ∧ (Below w.heap.size w w')) ?_ ?_
                   rotate_left
                   ·intro hJ5
                    refine join_ (σ := Unit) 19 L16_ (fun s_ => [(67, .string (strOfNums t255))]) (fun s_ w' => (Kd.R (Kd.int .u8) 5 w' w.heap.size (fun k_ => some k_ ≠ (v257 : Value).ownBlock ∧ some k_ ≠ (.slice Ao19 t259.length co19 : Value).ownBlock ∧ some k_ ≠ (v264 : Value).ownBlock) v253 t251) ∧ (Kd.R (Kd.int .u8) 5 w' w.heap.size (fun k_ => some k_ ≠ (v253 : Value).ownBlock ∧ some k_ ≠ (.slice Ao19 t259.length co19 : Value).ownBlock ∧ some k_ ≠ (v264 : Value).ownBlock) v257 t255) ∧ (Kd.R (Kd.int .u8) 5 w' w.heap.size (fun k_ => some k_ ≠ (v253 : Value).ownBlock ∧ some k_ ≠ (v257 : Value).ownBlock ∧ some k_ ≠ (v264 : Value).ownBlock) (.slice Ao19 t259.length co19) t259) ∧ (Kd.R (Kd.int .u8) 5 w' w.heap.size (fun k_ => some k_ ≠ (v253 : Value).ownBlock ∧ some k_ ≠ (v257 : Value).ownBlock ∧ some k_ ≠ (.slice Ao19 t259.length co19 : Value).ownBlock) v264 y263) ∧ (Below w.heap.size w w')) ?_ ?_
                    rotate_left
                    ·intro hJ8
                     refine three_ (i := 4) (j := 5) (k := 8) (Ni := some 63) (Nj := some 64) (Nk := some 67) L14_ L15_ L16_ rfl rfl rfl rfl rfl rfl (three_of HT_.out (by kernel_rfl)) (by decide) (by decide) (by decide) (fun K hK => ?_) (fun K hK => ?_) (fun K hK => ?_)
                     ·skip
                      have hcv28 := own_string (P := Try.prog) Try.underlying23 Try.underlying5 Try.underlying9 (Kd.own_of_R HO262.out)
                      refine value_ (w1 := ?_) (v := ?_) (by rfl) rfl ?_ ?_
                      rotate_left 2
                      ·go_simp
                       constructor
                       ·rfl
                       ·rfl
                      clear hcv28
                      refine hK.out _ _ trivial (fun hHeld => ?_)
                      clear hK K
                      refine norm_ (a' := ?_) ?_ ?_
                      rotate_left
                      ·show Act.put _ (some 63) _ = _
                       simp only [Act.put, sA_, sB_, sC_, i64_w]
                       rfl
                      exact norm_ (by simp only [putAll, Act.put, sA_, sB_, sC_] <;> rfl) (hJ4 () _ ⟨(mv2_ HO254.out), (mv2_ HO258.out), (mv2_ HO262.out), (mv2_ HO265.out), (bq_ HB.out)⟩)
                     ·skip
                      refine Kd.R_make_step (Kd.int .u8) _ 5 (by rfl) (N := 64) rfl 23 _ _ rfl 6 rfl rfl Try.underlying23 (.int .u8 0) 1 info5 rfl (by decide) (by omega) 0 (ok := fun _ => True) (okp := fun _ => True) rfl (fun _ hk => hk) trivial (by omega) (by omega) (Below.refl _ _) (Nat.le_refl _) ?_
                      intro v267 w28 ho29 hb hg_ hnew_
                      clear hg_ hnew_
                      (first | rw [← Ny266.out] at ho29 | (simp only [Int.reduceToNat] at ho29; rw [← Ny266.out] at ho29))
                      have n0_ := Aside0.mk (Kd.R_elder' (mv2_ HO254.out) (Kd.R_base ho29) hb)
                      have n1_ := Aside0.mk (Kd.R_elder' (mv2_ HO258.out) (Kd.R_base ho29) hb)
                      have n2_ := Aside0.mk (Kd.R_elder' (mv2_ HO262.out) (Kd.R_base ho29) hb)
                      have n3_ := Aside0.mk (Kd.R_elder' (mv2_ HO265.out) (Kd.R_base ho29) hb)
                      have n4_ := Aside0.mk (Kd.R_lower (Kd.R_new' (Kd.R_new' (Kd.R_new' (Kd.R_new' ho29 (Kd.R_lt (mv2_ HO254.out))) (Kd.R_lt (mv2_ HO258.out))) (Kd.R_lt (mv2_ HO262.out))) (Kd.R_lt (mv2_ HO265.out))) (below_size (bq_ HB.out)))
                      have n5_ := Aside0.mk (below_step (bq_ HB.out) hb)
                      clear HO254 HO258 HO262 HO265 HB
                      have HO254 := n0_
                      have HO258 := n1_
                      have HO262 := n2_
                      have HO265 := n3_
                      have HO268 := n4_
                      have HB := n5_
                      clear n0_ n1_ n2_ n3_ n4_ n5_ hb ho29
                      refine hK.out _ _ trivial (fun hHeld => ?_)
                      clear hK K
                      refine norm_ (a' := ?_) ?_ ?_
                      rotate_left
                      ·show Act.put _ (some 64) _ = _
                       simp only [Act.put, sA_, sB_, sC_, i64_w]
                       rfl
                      exact norm_ (by simp only [putAll, Act.put, sA_, sB_, sC_] <;> rfl) (hJ5 (v267) _ ⟨(by (with_reducible repeat (first | apply Kd.R_alloc | apply Kd.R_drewN | apply Kd.R_drew)); exact Kd.R_mono HO254.out (fun _ hk => ⟨hk.1.1, ⟨hk.1.2.1, ⟨hk.1.2.2, hk.2⟩⟩⟩)), (by (with_reducible repeat (first | apply Kd.R_alloc | apply Kd.R_drewN | apply Kd.R_drew)); exact Kd.R_mono HO258.out (fun _ hk => ⟨hk.1.1, ⟨hk.1.2.1, ⟨hk.1.2.2, hk.2⟩⟩⟩)), (by (with_reducible repeat (first | apply Kd.R_alloc | apply Kd.R_drewN | apply Kd.R_drew)); exact Kd.R_mono HO262.out (fun _ hk => ⟨hk.1.1, ⟨hk.1.2.1, ⟨hk.1.2.2, hk.2⟩⟩⟩)), (by (with_reducible repeat (first | apply Kd.R_alloc | apply Kd.R_drewN | apply Kd.R_drew)); exact Kd.R_mono HO265.out (fun _ hk => ⟨hk.1.1, ⟨hk.1.2.1, ⟨hk.1.2.2, hk.2⟩⟩⟩)), (by (with_reducible repeat (first | apply Kd.R_alloc | apply Kd.R_drewN | apply Kd.R_drew)); exact Kd.R_mono HO268.out (fun _ hk => ⟨hk.1.1.1.2, ⟨hk.1.1.2, ⟨hk.1.2, hk.2⟩⟩⟩)), (bq_ HB.out)⟩)
                     ·skip
                      have hcv28 := own_string (P := Try.prog) Try.underlying23 Try.underlying5 Try.underlying9 (Kd.own_of_R HO258.out)
                      refine value_ (w1 := ?_) (v := ?_) (by rfl) rfl ?_ ?_
                      rotate_left 2
                      ·go_simp
                       constructor
                       ·rfl
                       ·rfl
                      clear hcv28
                      refine hK.out _ _ trivial (fun hHeld => ?_)
                      clear hK K
                      refine norm_ (a' := ?_) ?_ ?_
                      rotate_left
                      ·show Act.put _ (some 67) _ = _
                       simp only [Act.put, sA_, sB_, sC_, i64_w]
                       rfl
                      exact norm_ (by simp only [putAll, Act.put, sA_, sB_, sC_] <;> rfl) (hJ8 () _ ⟨(mv2_ HO254.out), (mv2_ HO258.out), (mv2_ HO262.out), (mv2_ HO265.out), (bq_ HB.out)⟩)
                    ·skip
                     rintro _ w29 ⟨h0_, h1_, h2_, h3_, h4_⟩
                     have n0_ : Aside0 (Kd.R (Kd.int .u8) 5 w29 w.heap.size (fun k_ => some k_ ≠ (v257 : Value).ownBlock ∧ some k_ ≠ (.slice Ao19 t259.length co19 : Value).ownBlock ∧ some k_ ≠ (v264 : Value).ownBlock) v253 t251) := ⟨h0_⟩
                     have n1_ : Aside0 (Kd.R (Kd.int .u8) 5 w29 w.heap.size (fun k_ => some k_ ≠ (v253 : Value).ownBlock ∧ some k_ ≠ (.slice Ao19 t259.length co19 : Value).ownBlock ∧ some k_ ≠ (v264 : Value).ownBlock) v257 t255) := ⟨h1_⟩
                     have n2_ : Aside0 (Kd.R (Kd.int .u8) 5 w29 w.heap.size (fun k_ => some k_ ≠ (v253 : Value).ownBlock ∧ some k_ ≠ (v257 : Value).ownBlock ∧ some k_ ≠ (v264 : Value).ownBlock) (.slice Ao19 t259.length co19) t259) := ⟨h2_⟩
                     have n3_ : Aside0 (Kd.R (Kd.int .u8) 5 w29 w.heap.size (fun k_ => some k_ ≠ (v253 : Value).ownBlock ∧ some k_ ≠ (v257 : Value).ownBlock ∧ some k_ ≠ (.slice Ao19 t259.length co19 : Value).ownBlock) v264 y263) := ⟨h3_⟩
                     have n4_ : Aside0 (Below w.heap.size w w29) := ⟨h4_⟩
                     clear HO254 HO258 HO262 HO265 HB h0_ h1_ h2_ h3_ h4_
                     have HO254 := n0_
                     have HO258 := n1_
                     have HO262 := n2_
                     have HO265 := n3_
                     have HB := n4_
                     clear n0_ n1_ n2_ n3_ n4_
                     have hHeld := trivial
                     refine norm_ (a' := ?_) ?_ ?_
                     rotate_left
                     ·simp only [putAll, Act.put, sA_, sB_, sC_]
                      rfl
                     refine two_ (i := 4) (j := 5) (Ni := some 63) (Nj := some 64) L11_ L13_ rfl rfl rfl rfl (two_of HT_.out (by kernel_rfl)) (by decide) (by decide) (fun K hK => ?_) (fun K hK => ?_)
                     ·skip
                      have hcv30 := own_string (P := Try.prog) Try.underlying23 Try.underlying5 Try.underlying9 (Kd.own_of_R HO262.out)
                      refine value_ (w1 := ?_) (v := ?_) (by rfl) rfl ?_ ?_
                      rotate_left 2
                      ·go_simp
                       constructor
                       ·rfl
                       ·rfl
                      clear hcv30
                      refine hK.out _ _ trivial (fun hHeld => ?_)
                      clear hK K
                      refine norm_ (a' := ?_) ?_ ?_
                      rotate_left
                      ·show Act.put _ (some 63) _ = _
                       simp only [Act.put, sA_, sB_, sC_, i64_w]
                       rfl
                      exact norm_ (by simp only [putAll, Act.put, sA_, sB_, sC_] <;> rfl) (hJ4_8 () _ ⟨(mv2_ HO254.out), (mv2_ HO258.out), (mv2_ HO262.out), (mv2_ HO265.out), (bq_ HB.out)⟩)
                     ·skip
                      refine Kd.R_make_step (Kd.int .u8) _ 5 (by rfl) (N := 64) rfl 23 _ _ rfl 6 rfl rfl Try.underlying23 (.int .u8 0) 1 info5 rfl (by decide) (by omega) 0 (ok := fun _ => True) (okp := fun _ => True) rfl (fun _ hk => hk) trivial (by omega) (by omega) (Below.refl _ _) (Nat.le_refl _) ?_
                      intro v267 w30 ho31 hb hg_ hnew_
                      clear hg_ hnew_
                      (first | rw [← Ny266.out] at ho31 | (simp only [Int.reduceToNat] at ho31; rw [← Ny266.out] at ho31))
                      have n0_ := Aside0.mk (Kd.R_elder' (mv2_ HO254.out) (Kd.R_base ho31) hb)
                      have n1_ := Aside0.mk (Kd.R_elder' (mv2_ HO258.out) (Kd.R_base ho31) hb)
                      have n2_ := Aside0.mk (Kd.R_elder' (mv2_ HO262.out) (Kd.R_base ho31) hb)
                      have n3_ := Aside0.mk (Kd.R_elder' (mv2_ HO265.out) (Kd.R_base ho31) hb)
                      have n4_ := Aside0.mk (Kd.R_lower (Kd.R_new' (Kd.R_new' (Kd.R_new' (Kd.R_new' ho31 (Kd.R_lt (mv2_ HO254.out))) (Kd.R_lt (mv2_ HO258.out))) (Kd.R_lt (mv2_ HO262.out))) (Kd.R_lt (mv2_ HO265.out))) (below_size (bq_ HB.out)))
                      have n5_ := Aside0.mk (below_step (bq_ HB.out) hb)
                      clear HO254 HO258 HO262 HO265 HB
                      have HO254 := n0_
                      have HO258 := n1_
                      have HO262 := n2_
                      have HO265 := n3_
                      have HO268 := n4_
                      have HB := n5_
                      clear n0_ n1_ n2_ n3_ n4_ n5_ hb ho31
                      refine hK.out _ _ trivial (fun hHeld => ?_)
                      clear hK K
                      refine norm_ (a' := ?_) ?_ ?_
                      rotate_left
                      ·show Act.put _ (some 64) _ = _
                       simp only [Act.put, sA_, sB_, sC_, i64_w]
                       rfl
                      exact norm_ (by simp only [putAll, Act.put, sA_, sB_, sC_] <;> rfl) (hJ5_8 (v267) _ ⟨(by (with_reducible repeat (first | apply Kd.R_alloc | apply Kd.R_drewN | apply Kd.R_drew)); exact Kd.R_mono HO254.out (fun _ hk => ⟨hk.1.1, ⟨hk.1.2.1, ⟨hk.1.2.2, hk.2⟩⟩⟩)), (by (with_reducible repeat (first | apply Kd.R_alloc | apply Kd.R_drewN | apply Kd.R_drew)); exact Kd.R_mono HO258.out (fun _ hk => ⟨hk.1.1, ⟨hk.1.2.1, ⟨hk.1.2.2, hk.2⟩⟩⟩)), (by (with_reducible repeat (first | apply Kd.R_alloc | apply Kd.R_drewN | apply Kd.R_drew)); exact Kd.R_mono HO262.out (fun _ hk => ⟨hk.1.1, ⟨hk.1.2.1, ⟨hk.1.2.2, hk.2⟩⟩⟩)), (by (with_reducible repeat (first | apply Kd.R_alloc | apply Kd.R_drewN | apply Kd.R_drew)); exact Kd.R_mono HO265.out (fun _ hk => ⟨hk.1.1, ⟨hk.1.2.1, ⟨hk.1.2.2, hk.2⟩⟩⟩)), (by (with_reducible repeat (first | apply Kd.R_alloc | apply Kd.R_drewN | apply Kd.R_drew)); exact Kd.R_mono HO268.out (fun _ hk => ⟨hk.1.1.1.2, ⟨hk.1.1.2, ⟨hk.1.2, hk.2⟩⟩⟩)), (bq_ HB.out)⟩)
                   ·skip
                    rintro v267 w30 ⟨h0_, h1_, h2_, h3_, h4_, h5_⟩
                    have n0_ : Aside0 (Kd.R (Kd.int .u8) 5 w30 w.heap.size (fun k_ => some k_ ≠ (v257 : Value).ownBlock ∧ some k_ ≠ (.slice Ao19 t259.length co19 : Value).ownBlock ∧ some k_ ≠ (v264 : Value).ownBlock ∧ some k_ ≠ (v267 : Value).ownBlock) v253 t251) := ⟨h0_⟩
                    have n1_ : Aside0 (Kd.R (Kd.int .u8) 5 w30 w.heap.size (fun k_ => some k_ ≠ (v253 : Value).ownBlock ∧ some k_ ≠ (.slice Ao19 t259.length co19 : Value).ownBlock ∧ some k_ ≠ (v264 : Value).ownBlock ∧ some k_ ≠ (v267 : Value).ownBlock) v257 t255) := ⟨h1_⟩
                    have n2_ : Aside0 (Kd.R (Kd.int .u8) 5 w30 w.heap.size (fun k_ => some k_ ≠ (v253 : Value).ownBlock ∧ some k_ ≠ (v257 : Value).ownBlock ∧ some k_ ≠ (v264 : Value).ownBlock ∧ some k_ ≠ (v267 : Value).ownBlock) (.slice Ao19 t259.length co19) t259) := ⟨h2_⟩
                    have n3_ : Aside0 (Kd.R (Kd.int .u8) 5 w30 w.heap.size (fun k_ => some k_ ≠ (v253 : Value).ownBlock ∧ some k_ ≠ (v257 : Value).ownBlock ∧ some k_ ≠ (.slice Ao19 t259.length co19 : Value).ownBlock ∧ some k_ ≠ (v267 : Value).ownBlock) v264 y263) := ⟨h3_⟩
                    have n4_ : Aside0 (Kd.R (Kd.int .u8) 5 w30 w.heap.size (fun k_ => some k_ ≠ (v253 : Value).ownBlock ∧ some k_ ≠ (v257 : Value).ownBlock ∧ some k_ ≠ (.slice Ao19 t259.length co19 : Value).ownBlock ∧ some k_ ≠ (v264 : Value).ownBlock) v267 y266) := ⟨h4_⟩
                    have n5_ : Aside0 (Below w.heap.size w w30) := ⟨h5_⟩
                    clear HO254 HO258 HO262 HO265 HB h0_ h1_ h2_ h3_ h4_ h5_
                    have HO254 := n0_
                    have HO258 := n1_
                    have HO262 := n2_
                    have HO265 := n3_
                    have HO268 := n4_
                    have HB := n5_
                    clear n0_ n1_ n2_ n3_ n4_ n5_
                    have hHeld := trivial
                    refine norm_ (a' := ?_) ?_ ?_
                    rotate_left
                    ·simp only [putAll, Act.put, sA_, sB_, sC_]
                     rfl
                    refine three_ (i := 4) (j := 6) (k := 8) (Ni := some 63) (Nj := some 65) (Nk := some 67) L10_ L12_ L13_ rfl rfl rfl rfl rfl rfl (three_of HT_.out (by kernel_rfl)) (by decide) (by decide) (by decide) (fun K hK => ?_) (fun K hK => ?_) (fun K hK => ?_)
                    ·skip
                     have hcv31 := own_string (P := Try.prog) Try.underlying23 Try.underlying5 Try.underlying9 (Kd.own_of_R HO262.out)
                     refine value_ (w1 := ?_) (v := ?_) (by rfl) rfl ?_ ?_
                     rotate_left 2
                     ·go_simp
                      constructor
                      ·rfl
                      ·rfl
                     clear hcv31
                     refine hK.out _ _ trivial (fun hHeld => ?_)
                     clear hK K
                     refine norm_ (a' := ?_) ?_ ?_
                     rotate_left
                     ·show Act.put _ (some 63) _ = _
                      simp only [Act.put, sA_, sB_, sC_, i64_w]
                      rfl
                     exact norm_ (by simp only [putAll, Act.put, sA_, sB_, sC_] <;> rfl) (hJ4_5 (v267) _ ⟨(mv2_ HO254.out), (mv2_ HO258.out), (mv2_ HO262.out), (mv2_ HO265.out), (mv2_ HO268.out), (bq_ HB.out)⟩)
                    ·skip
                     have hcv31 := own_string (P := Try.prog) Try.underlying23 Try.underlying5 Try.underlying9 (Kd.own_of_R HO268.out)
                     refine value_ (w1 := ?_) (v := ?_) (by rfl) rfl ?_ ?_
                     rotate_left 2
                     ·go_simp
                      constructor
                      ·rfl
                      ·rfl
                     clear hcv31
                     refine hK.out _ _ trivial (fun hHeld => ?_)
                     clear hK K
                     refine norm_ (a' := ?_) ?_ ?_
                     rotate_left
                     ·show Act.put _ (some 65) _ = _
                      simp only [Act.put, sA_, sB_, sC_, i64_w]
                      rfl
                     exact norm_ (by simp only [putAll, Act.put, sA_, sB_, sC_] <;> rfl) (hJ5_6 (v267) _ ⟨(mv2_ HO254.out), (mv2_ HO258.out), (mv2_ HO262.out), (mv2_ HO265.out), (mv2_ HO268.out), (bq_ HB.out)⟩)
                    ·skip
                     have hcv31 := own_string (P := Try.prog) Try.underlying23 Try.underlying5 Try.underlying9 (Kd.own_of_R HO258.out)
                     refine value_ (w1 := ?_) (v := ?_) (by rfl) rfl ?_ ?_
                     rotate_left 2
                     ·go_simp
                      constructor
                      ·rfl
                      ·rfl
                     clear hcv31
                     refine hK.out _ _ trivial (fun hHeld => ?_)
                     clear hK K
                     refine norm_ (a' := ?_) ?_ ?_
                     rotate_left
                     ·show Act.put _ (some 67) _ = _
                      simp only [Act.put, sA_, sB_, sC_, i64_w]
                      rfl
                     exact norm_ (by simp only [putAll, Act.put, sA_, sB_, sC_] <;> rfl) (hJ5_8 (v267) _ ⟨(mv2_ HO254.out), (mv2_ HO258.out), (mv2_ HO262.out), (mv2_ HO265.out), (mv2_ HO268.out), (bq_ HB.out)⟩)
                  ·skip
                   rintro _ w29 ⟨h0_, h1_, h2_, h3_, h4_⟩
                   have n0_ : Aside0 (Kd.R (Kd.int .u8) 5 w29 w.heap.size (fun k_ => some k_ ≠ (v257 : Value).ownBlock ∧ some k_ ≠ (.slice Ao19 t259.length co19 : Value).ownBlock ∧ some k_ ≠ (v264 : Value).ownBlock) v253 t251) := ⟨h0_⟩
                   have n1_ : Aside0 (Kd.R (Kd.int .u8) 5 w29 w.heap.size (fun k_ => some k_ ≠ (v253 : Value).ownBlock ∧ some k_ ≠ (.slice Ao19 t259.length co19 : Value).ownBlock ∧ some k_ ≠ (v264 : Value).ownBlock) v257 t255) := ⟨h1_⟩
                   have n2_ : Aside0 (Kd.R (Kd.int .u8) 5 w29 w.heap.size (fun k_ => some k_ ≠ (v253 : Value).ownBlock ∧ some k_ ≠ (v257 : Value).ownBlock ∧ some k_ ≠ (v264 : Value).ownBlock) (.slice Ao19 t259.length co19) t259) := ⟨h2_⟩
                   have n3_ : Aside0 (Kd.R (Kd.int .u8) 5 w29 w.heap.size (fun k_ => some k_ ≠ (v253 : Value).ownBlock ∧ some k_ ≠ (v257 : Value).ownBlock ∧ some k_ ≠ (.slice Ao19 t259.length co19 : Value).ownBlock) v264 y263) := ⟨h3_⟩
                   have n4_ : Aside0 (Below w.heap.size w w29) := ⟨h4_⟩
                   clear HO254 HO258 HO262 HO265 HB h0_ h1_ h2_ h3_ h4_
                   have HO254 := n0_
                   have HO258 := n1_
                   have HO262 := n2_
                   have HO265 := n3_
                   have HB := n4_
                   clear n0_ n1_ n2_ n3_ n4_
                   have hHeld := trivial
                   refine norm_ (a' := ?_) ?_ ?_
                   rotate_left
                   ·simp only [putAll, Act.put, sA_, sB_, sC_]
                    rfl
                   refine two_ (i := 5) (j := 8) (Ni := some 64) (Nj := some 67) L10_ L11_ rfl rfl rfl rfl (two_of HT_.out (by kernel_rfl)) (by decide) (by decide) (fun K hK => ?_) (fun K hK => ?_)
                   ·skip
                    refine Kd.R_make_step (Kd.int .u8) _ 5 (by rfl) (N := 64) rfl 23 _ _ rfl 6 rfl rfl Try.underlying23 (.int .u8 0) 1 info5 rfl (by decide) (by omega) 0 (ok := fun _ => True) (okp := fun _ => True) rfl (fun _ hk => hk) trivial (by omega) (by omega) (Below.refl _ _) (Nat.le_refl _) ?_
                    intro v267 w30 ho31 hb hg_ hnew_
                    clear hg_ hnew_
                    (first | rw [← Ny266.out] at ho31 | (simp only [Int.reduceToNat] at ho31; rw [← Ny266.out] at ho31))
                    have n0_ := Aside0.mk (Kd.R_elder' (mv2_ HO254.out) (Kd.R_base ho31) hb)
                    have n1_ := Aside0.mk (Kd.R_elder' (mv2_ HO258.out) (Kd.R_base ho31) hb)
                    have n2_ := Aside0.mk (Kd.R_elder' (mv2_ HO262.out) (Kd.R_base ho31) hb)
                    have n3_ := Aside0.mk (Kd.R_elder' (mv2_ HO265.out) (Kd.R_base ho31) hb)
                    have n4_ := Aside0.mk (Kd.R_lower (Kd.R_new' (Kd.R_new' (Kd.R_new' (Kd.R_new' ho31 (Kd.R_lt (mv2_ HO254.out))) (Kd.R_lt (mv2_ HO258.out))) (Kd.R_lt (mv2_ HO262.out))) (Kd.R_lt (mv2_ HO265.out))) (below_size (bq_ HB.out)))
                    have n5_ := Aside0.mk (below_step (bq_ HB.out) hb)
                    clear HO254 HO258 HO262 HO265 HB
                    have HO254 := n0_
                    have HO258 := n1_
                    have HO262 := n2_
                    have HO265 := n3_
                    have HO268 := n4_
                    have HB := n5_
                    clear n0_ n1_ n2_ n3_ n4_ n5_ hb ho31
                    refine hK.out _ _ trivial (fun hHeld => ?_)
                    clear hK K
                    refine norm_ (a' := ?_) ?_ ?_
                    rotate_left
                    ·show Act.put _ (some 64) _ = _
                     simp only [Act.put, sA_, sB_, sC_, i64_w]
                     rfl
                    exact norm_ (by simp only [putAll, Act.put, sA_, sB_, sC_] <;> rfl) (hJ4_5 (v267) _ ⟨(by (with_reducible repeat (first | apply Kd.R_alloc | apply Kd.R_drewN | apply Kd.R_drew)); exact Kd.R_mono HO254.out (fun _ hk => ⟨hk.1.1, ⟨hk.1.2.1, ⟨hk.1.2.2, hk.2⟩⟩⟩)), (by (with_reducible repeat (first | apply Kd.R_alloc | apply Kd.R_drewN | apply Kd.R_drew)); exact Kd.R_mono HO258.out (fun _ hk => ⟨hk.1.1, ⟨hk.1.2.1, ⟨hk.1.2.2, hk.2⟩⟩⟩)), (by (with_reducible repeat (first | apply Kd.R_alloc | apply Kd.R_drewN | apply Kd.R_drew)); exact Kd.R_mono HO262.out (fun _ hk => ⟨hk.1.1, ⟨hk.1.2.1, ⟨hk.1.2.2, hk.2⟩⟩⟩)), (by (with_reducible repeat (first | apply Kd.R_alloc | apply Kd.R_drewN | apply Kd.R_drew)); exact Kd.R_mono HO265.out (fun _ hk => ⟨hk.1.1, ⟨hk.1.2.1, ⟨hk.1.2.2, hk.2⟩⟩⟩)), (by (with_reducible repeat (first | apply Kd.R_alloc | apply Kd.R_drewN | apply Kd.R_drew)); exact Kd.R_mono HO268.out (fun _ hk => ⟨hk.1.1.1.2, ⟨hk.1.1.2, ⟨hk.1.2, hk.2⟩⟩⟩)), (bq_ HB.out)⟩)
                   ·skip
                    have hcv30 := own_string (P := Try.prog) Try.underlying23 Try.underlying5 Try.underlying9 (Kd.own_of_R HO258.out)
                    refine value_ (w1 := ?_) (v := ?_) (by rfl) rfl ?_ ?_
                    rotate_left 2
                    ·go_simp
                     constructor
                     ·rfl
                     ·rfl
                    clear hcv30
                    refine hK.out _ _ trivial (fun hHeld => ?_)
                    clear hK K
                    refine norm_ (a' := ?_) ?_ ?_
                    rotate_left
                    ·show Act.put _ (some 67) _ = _
                     simp only [Act.put, sA_, sB_, sC_, i64_w]
                     rfl
                    exact norm_ (by simp only [putAll, Act.put, sA_, sB_, sC_] <;> rfl) (hJ4_8 () _ ⟨(mv2_ HO254.out), (mv2_ HO258.out), (mv2_ HO262.out), (mv2_ HO265.out), (bq_ HB.out)⟩)
                 ·skip
                  rintro v267 w31 ⟨h0_, h1_, h2_, h3_, h4_, h5_⟩
                  have n0_ : Aside0 (Kd.R (Kd.int .u8) 5 w31 w.heap.size (fun k_ => some k_ ≠ (v257 : Value).ownBlock ∧ some k_ ≠ (.slice Ao19 t259.length co19 : Value).ownBlock ∧ some k_ ≠ (v264 : Value).ownBlock ∧ some k_ ≠ (v267 : Value).ownBlock) v253 t251) := ⟨h0_⟩
                  have n1_ : Aside0 (Kd.R (Kd.int .u8) 5 w31 w.heap.size (fun k_ => some k_ ≠ (v253 : Value).ownBlock ∧ some k_ ≠ (.slice Ao19 t259.length co19 : Value).ownBlock ∧ some k_ ≠ (v264 : Value).ownBlock ∧ some k_ ≠ (v267 : Value).ownBlock) v257 t255) := ⟨h1_⟩
                  have n2_ : Aside0 (Kd.R (Kd.int .u8) 5 w31 w.heap.size (fun k_ => some k_ ≠ (v253 : Value).ownBlock ∧ some k_ ≠ (v257 : Value).ownBlock ∧ some k_ ≠ (v264 : Value).ownBlock ∧ some k_ ≠ (v267 : Value).ownBlock) (.slice Ao19 t259.length co19) t259) := ⟨h2_⟩
                  have n3_ : Aside0 (Kd.R (Kd.int .u8) 5 w31 w.heap.size (fun k_ => some k_ ≠ (v253 : Value).ownBlock ∧ some k_ ≠ (v257 : Value).ownBlock ∧ some k_ ≠ (.slice Ao19 t259.length co19 : Value).ownBlock ∧ some k_ ≠ (v267 : Value).ownBlock) v264 y263) := ⟨h3_⟩
                  have n4_ : Aside0 (Kd.R (Kd.int .u8) 5 w31 w.heap.size (fun k_ => some k_ ≠ (v253 : Value).ownBlock ∧ some k_ ≠ (v257 : Value).ownBlock ∧ some k_ ≠ (.slice Ao19 t259.length co19 : Value).ownBlock ∧ some k_ ≠ (v264 : Value).ownBlock) v267 y266) := ⟨h4_⟩
                  have n5_ : Aside0 (Below w.heap.size w w31) := ⟨h5_⟩
                  clear HO254 HO258 HO262 HO265 HB h0_ h1_ h2_ h3_ h4_ h5_
                  have HO254 := n0_
                  have HO258 := n1_
                  have HO262 := n2_
                  have HO265 := n3_
                  have HO268 := n4_
                  have HB := n5_
                  clear n0_ n1_ n2_ n3_ n4_ n5_
                  have hHeld := trivial
                  refine norm_ (a' := ?_) ?_ ?_
                  rotate_left
                  ·simp only [putAll, Act.put, sA_, sB_, sC_]
                   rfl
                  refine two_ (i := 4) (j := 6) (Ni := some 63) (Nj := some 65) L8_ L17_ rfl rfl rfl rfl (two_of HT_.out (by kernel_rfl)) (by decide) (by decide) (fun K hK => ?_) (fun K hK => ?_)
                  ·skip
                   have hcv32 := own_string (P := Try.prog) Try.underlying23 Try.underlying5 Try.underlying9 (Kd.own_of_R HO262.out)
                   refine value_ (w1 := ?_) (v := ?_) (by rfl) rfl ?_ ?_
                   rotate_left 2
                   ·go_simp
                    constructor
                    ·rfl
                    ·rfl
                   clear hcv32
                   refine hK.out _ _ trivial (fun hHeld => ?_)
                   clear hK K
                   refine norm_ (a' := ?_) ?_ ?_
                   rotate_left
                   ·show Act.put _ (some 63) _ = _
                    simp only [Act.put, sA_, sB_, sC_, i64_w]
                    rfl
                   exact norm_ (by simp only [putAll, Act.put, sA_, sB_, sC_] <;> rfl) (hJ4_5_8 (v267) _ ⟨(mv2_ HO254.out), (mv2_ HO258.out), (mv2_ HO262.out), (mv2_ HO265.out), (mv2_ HO268.out), (bq_ HB.out)⟩)
                  ·skip
                   have hcv32 := own_string (P := Try.prog) Try.underlying23 Try.underlying5 Try.underlying9 (Kd.own_of_R HO268.out)
                   refine value_ (w1 := ?_) (v := ?_) (by rfl) rfl ?_ ?_
                   rotate_left 2
                   ·go_simp
                    constructor
                    ·rfl
                    ·rfl
                   clear hcv32
                   refine hK.out _ _ trivial (fun hHeld => ?_)
                   clear hK K
                   refine norm_ (a' := ?_) ?_ ?_
                   rotate_left
                   ·show Act.put _ (some 65) _ = _
                    simp only [Act.put, sA_, sB_, sC_, i64_w]
                    rfl
                   refine pure_ (i := 9) (N := some 68) (v := ?_) (a' := ?_) L9_ rfl rfl (any_of HT_.out (by kernel_rfl)) (fun _ _ _ h => h) (Or.inl ⟨by rfl, ?_⟩) ?_ ?_
                   rotate_left
                   ·intro w'
                    go_simp
                    with_reducible rfl
                   rotate_left
                   ·simp only [Act.put, sA_, sB_, sC_, i64_w]
                    rfl
                   exact norm_ (by simp only [putAll, Act.put, sA_, sB_, sC_] <;> rfl) (hJ5_6_8 (v267) _ ⟨(mv2_ HO254.out), (mv2_ HO258.out), (mv2_ HO262.out), (mv2_ HO265.out), (mv2_ HO268.out), (bq_ HB.out)⟩)
                ·skip
                 rintro v267 w31 ⟨h0_, h1_, h2_, h3_, h4_, h5_⟩
                 have n0_ : Aside0 (Kd.R (Kd.int .u8) 5 w31 w.heap.size (fun k_ => some k_ ≠ (v257 : Value).ownBlock ∧ some k_ ≠ (.slice Ao19 t259.length co19 : Value).ownBlock ∧ some k_ ≠ (v264 : Value).ownBlock ∧ some k_ ≠ (v267 : Value).ownBlock) v253 t251) := ⟨h0_⟩
                 have n1_ : Aside0 (Kd.R (Kd.int .u8) 5 w31 w.heap.size (fun k_ => some k_ ≠ (v253 : Value).ownBlock ∧ some k_ ≠ (.slice Ao19 t259.length co19 : Value).ownBlock ∧ some k_ ≠ (v264 : Value).ownBlock ∧ some k_ ≠ (v267 : Value).ownBlock) v257 t255) := ⟨h1_⟩
                 have n2_ : Aside0 (Kd.R (Kd.int .u8) 5 w31 w.heap.size (fun k_ => some k_ ≠ (v253 : Value).ownBlock ∧ some k_ ≠ (v257 : Value).ownBlock ∧ some k_ ≠ (v264 : Value).ownBlock ∧ some k_ ≠ (v267 : Value).ownBlock) (.slice Ao19 t259.length co19) t259) := ⟨h2_⟩
                 have n3_ : Aside0 (Kd.R (Kd.int .u8) 5 w31 w.heap.size (fun k_ => some k_ ≠ (v253 : Value).ownBlock ∧ some k_ ≠ (v257 : Value).ownBlock ∧ some k_ ≠ (.slice Ao19 t259.length co19 : Value).ownBlock ∧ some k_ ≠ (v267 : Value).ownBlock) v264 y263) := ⟨h3_⟩
                 have n4_ : Aside0 (Kd.R (Kd.int .u8) 5 w31 w.heap.size (fun k_ => some k_ ≠ (v253 : Value).ownBlock ∧ some k_ ≠ (v257 : Value).ownBlock ∧ some k_ ≠ (.slice Ao19 t259.length co19 : Value).ownBlock ∧ some k_ ≠ (v264 : Value).ownBlock) v267 y266) := ⟨h4_⟩
                 have n5_ : Aside0 (Below w.heap.size w w31) := ⟨h5_⟩
                 clear HO254 HO258 HO262 HO265 HB h0_ h1_ h2_ h3_ h4_ h5_
                 have HO254 := n0_
                 have HO258 := n1_
                 have HO262 := n2_
                 have HO265 := n3_
                 have HO268 := n4_
                 have HB := n5_
                 clear n0_ n1_ n2_ n3_ n4_ n5_
                 have hHeld := trivial
                 refine norm_ (a' := ?_) ?_ ?_
                 rotate_left
                 ·simp only [putAll, Act.put, sA_, sB_, sC_]
                  rfl
                 refine two_ (i := 4) (j := 8) (Ni := some 63) (Nj := some 67) L7_ L17_ rfl rfl rfl rfl (two_of HT_.out (by kernel_rfl)) (by decide) (by decide) (fun K hK => ?_) (fun K hK => ?_)
                 ·skip
                  have hcv32 := own_string (P := Try.prog) Try.underlying23 Try.underlying5 Try.underlying9 (Kd.own_of_R HO262.out)
                  refine value_ (w1 := ?_) (v := ?_) (by rfl) rfl ?_ ?_
                  rotate_left 2
                  ·go_simp
                   constructor
                   ·rfl
                   ·rfl
                  clear hcv32
                  refine hK.out _ _ trivial (fun hHeld => ?_)
                  clear hK K
                  refine norm_ (a' := ?_) ?_ ?_
                  rotate_left
                  ·show Act.put _ (some 63) _ = _
                   simp only [Act.put, sA_, sB_, sC_, i64_w]
                   rfl
                  exact norm_ (by simp only [putAll, Act.put, sA_, sB_, sC_] <;> rfl) (hJ4_5_6 (v267) _ ⟨(mv2_ HO254.out), (mv2_ HO258.out), (mv2_ HO262.out), (mv2_ HO265.out), (mv2_ HO268.out), (bq_ HB.out)⟩)
                 ·skip
                  have hcv32 := own_string (P := Try.prog) Try.underlying23 Try.underlying5 Try.underlying9 (Kd.own_of_R HO258.out)
                  refine value_ (w1 := ?_) (v := ?_) (by rfl) rfl ?_ ?_
                  rotate_left 2
                  ·go_simp
                   constructor
                   ·rfl
                   ·rfl
                  clear hcv32
                  refine hK.out _ _ trivial (fun hHeld => ?_)
                  clear hK K
                  refine norm_ (a' := ?_) ?_ ?_
                  rotate_left
                  ·show Act.put _ (some 67) _ = _
                   simp only [Act.put, sA_, sB_, sC_, i64_w]
                   rfl
                  refine pure_ (i := 9) (N := some 68) (v := ?_) (a' := ?_) L9_ rfl rfl (any_of HT_.out (by kernel_rfl)) (fun _ _ _ h => h) (Or.inl ⟨by rfl, ?_⟩) ?_ ?_
                  rotate_left
                  ·intro w'
                   go_simp
                   with_reducible rfl
                  rotate_left
                  ·simp only [Act.put, sA_, sB_, sC_, i64_w]
                   rfl
                  exact norm_ (by simp only [putAll, Act.put, sA_, sB_, sC_] <;> rfl) (hJ5_6_8 (v267) _ ⟨(mv2_ HO254.out), (mv2_ HO258.out), (mv2_ HO262.out), (mv2_ HO265.out), (mv2_ HO268.out), (bq_ HB.out)⟩)
               ·skip
                rintro _ w30 ⟨h0_, h1_, h2_, h3_, h4_⟩
                have n0_ : Aside0 (Kd.R (Kd.int .u8) 5 w30 w.heap.size (fun k_ => some k_ ≠ (v257 : Value).ownBlock ∧ some k_ ≠ (.slice Ao19 t259.length co19 : Value).ownBlock ∧ some k_ ≠ (v264 : Value).ownBlock) v253 t251) := ⟨h0_⟩
                have n1_ : Aside0 (Kd.R (Kd.int .u8) 5 w30 w.heap.size (fun k_ => some k_ ≠ (v253 : Value).ownBlock ∧ some k_ ≠ (.slice Ao19 t259.length co19 : Value).ownBlock ∧ some k_ ≠ (v264 : Value).ownBlock) v257 t255) := ⟨h1_⟩
                have n2_ : Aside0 (Kd.R (Kd.int .u8) 5 w30 w.heap.size (fun k_ => some k_ ≠ (v253 : Value).ownBlock ∧ some k_ ≠ (v257 : Value).ownBlock ∧ some k_ ≠ (v264 : Value).ownBlock) (.slice Ao19 t259.length co19) t259) := ⟨h2_⟩
                have n3_ : Aside0 (Kd.R (Kd.int .u8) 5 w30 w.heap.size (fun k_ => some k_ ≠ (v253 : Value).ownBlock ∧ some k_ ≠ (v257 : Value).ownBlock ∧ some k_ ≠ (.slice Ao19 t259.length co19 : Value).ownBlock) v264 y263) := ⟨h3_⟩
                have n4_ : Aside0 (Below w.heap.size w w30) := ⟨h4_⟩
                clear HO254 HO258 HO262 HO265 HB h0_ h1_ h2_ h3_ h4_
                have HO254 := n0_
                have HO258 := n1_
                have HO262 := n2_
                have HO265 := n3_
                have HB := n4_
                clear n0_ n1_ n2_ n3_ n4_
                have hHeld := trivial
                refine norm_ (a' := ?_) ?_ ?_
                rotate_left
                ·simp only [putAll, Act.put, sA_, sB_, sC_]
                 rfl
                refine one_ (i := 5) (N := some 64) L8_ rfl rfl (one_of HT_.out (by kernel_rfl)) (by decide) (fun K hK => ?_)
                refine Kd.R_make_step (Kd.int .u8) _ 5 (by rfl) (N := 64) rfl 23 _ _ rfl 6 rfl rfl Try.underlying23 (.int .u8 0) 1 info5 rfl (by decide) (by omega) 0 (ok := fun _ => True) (okp := fun _ => True) rfl (fun _ hk => hk) trivial (by omega) (by omega) (Below.refl _ _) (Nat.le_refl _) ?_
                intro v267 w31 ho32 hb hg_ hnew_
                clear hg_ hnew_
                (first | rw [← Ny266.out] at ho32 | (simp only [Int.reduceToNat] at ho32; rw [← Ny266.out] at ho32))
                have n0_ := Aside0.mk (Kd.R_elder' (mv2_ HO254.out) (Kd.R_base ho32) hb)
                have n1_ := Aside0.mk (Kd.R_elder' (mv2_ HO258.out) (Kd.R_base ho32) hb)
                have n2_ := Aside0.mk (Kd.R_elder' (mv2_ HO262.out) (Kd.R_base ho32) hb)
                have n3_ := Aside0.mk (Kd.R_elder' (mv2_ HO265.out) (Kd.R_base ho32) hb)
                have n4_ := Aside0.mk (Kd.R_lower (Kd.R_new' (Kd.R_new' (Kd.R_new' (Kd.R_new' ho32 (Kd.R_lt (mv2_ HO254.out))) (Kd.R_lt (mv2_ HO258.out))) (Kd.R_lt (mv2_ HO262.out))) (Kd.R_lt (mv2_ HO265.out))) (below_size (bq_ HB.out)))
                have n5_ := Aside0.mk (below_step (bq_ HB.out) hb)
                clear HO254 HO258 HO262 HO265 HB
                have HO254 := n0_
                have HO258 := n1_
                have HO262 := n2_
                have HO265 := n3_
                have HO268 := n4_
                have HB := n5_
                clear n0_ n1_ n2_ n3_ n4_ n5_ hb ho32
                refine hK.out _ _ trivial (fun hHeld => ?_)
                clear hK K
                refine norm_ (a' := ?_) ?_ ?_
                rotate_left
                ·show Act.put _ (some 64) _ = _
                 simp only [Act.put, sA_, sB_, sC_, i64_w]
                 rfl
                exact norm_ (by simp only [putAll, Act.put, sA_, sB_, sC_] <;> rfl) (hJ4_5_8 (v267) _ ⟨(by (with_reducible repeat (first | apply Kd.R_alloc | apply Kd.R_drewN | apply Kd.R_drew)); exact Kd.R_mono HO254.out (fun _ hk => ⟨hk.1.1, ⟨hk.1.2.1, ⟨hk.1.2.2, hk.2⟩⟩⟩)), (by (with_reducible repeat (first | apply Kd.R_alloc | apply Kd.R_drewN | apply Kd.R_drew)); exact Kd.R_mono HO258.out (fun _ hk => ⟨hk.1.1, ⟨hk.1.2.1, ⟨hk.1.2.2, hk.2⟩⟩⟩)), (by (with_reducible repeat (first | apply Kd.R_alloc | apply Kd.R_drewN | apply Kd.R_drew)); exact Kd.R_mono HO262.out (fun _ hk => ⟨hk.1.1, ⟨hk.1.2.1, ⟨hk.1.2.2, hk.2⟩⟩⟩)), (by (with_reducible repeat (first | apply Kd.R_alloc | apply Kd.R_drewN | apply Kd.R_drew)); exact Kd.R_mono HO265.out (fun _ hk => ⟨hk.1.1, ⟨hk.1.2.1, ⟨hk.1.2.2, hk.2⟩⟩⟩)), (by (with_reducible repeat (first | apply Kd.R_alloc | apply Kd.R_drewN | apply Kd.R_drew)); exact Kd.R_mono HO268.out (fun _ hk => ⟨hk.1.1.1.2, ⟨hk.1.1.2, ⟨hk.1.2, hk.2⟩⟩⟩)), (bq_ HB.out)⟩)
              ·skip
               rintro v267 w31 ⟨h0_, h1_, h2_, h3_, h4_, h5_⟩
               have n0_ : Aside0 (Kd.R (Kd.int .u8) 5 w31 w.heap.size (fun k_ => some k_ ≠ (v257 : Value).ownBlock ∧ some k_ ≠ (.slice Ao19 t259.length co19 : Value).ownBlock ∧ some k_ ≠ (v264 : Value).ownBlock ∧ some k_ ≠ (v267 : Value).ownBlock) v253 t251) := ⟨h0_⟩
               have n1_ : Aside0 (Kd.R (Kd.int .u8) 5 w31 w.heap.size (fun k_ => some k_ ≠ (v253 : Value).ownBlock ∧ some k_ ≠ (.slice Ao19 t259.length co19 : Value).ownBlock ∧ some k_ ≠ (v264 : Value).ownBlock ∧ some k_ ≠ (v267 : Value).ownBlock) v257 t255) := ⟨h1_⟩
               have n2_ : Aside0 (Kd.R (Kd.int .u8) 5 w31 w.heap.size (fun k_ => some k_ ≠ (v253 : Value).ownBlock ∧ some k_ ≠ (v257 : Value).ownBlock ∧ some k_ ≠ (v264 : Value).ownBlock ∧ some k_ ≠ (v267 : Value).ownBlock) (.slice Ao19 t259.length co19) t259) := ⟨h2_⟩
               have n3_ : Aside0 (Kd.R (Kd.int .u8) 5 w31 w.heap.size (fun k_ => some k_ ≠ (v253 : Value).ownBlock ∧ some k_ ≠ (v257 : Value).ownBlock ∧ some k_ ≠ (.slice Ao19 t259.length co19 : Value).ownBlock ∧ some k_ ≠ (v267 : Value).ownBlock) v264 y263) := ⟨h3_⟩
               have n4_ : Aside0 (Kd.R (Kd.int .u8) 5 w31 w.heap.size (fun k_ => some k_ ≠ (v253 : Value).ownBlock ∧ some k_ ≠ (v257 : Value).ownBlock ∧ some k_ ≠ (.slice Ao19 t259.length co19 : Value).ownBlock ∧ some k_ ≠ (v264 : Value).ownBlock) v267 y266) := ⟨h4_⟩
               have n5_ : Aside0 (Below w.heap.size w w31) := ⟨h5_⟩
               clear HO254 HO258 HO262 HO265 HB h0_ h1_ h2_ h3_ h4_ h5_
               have HO254 := n0_
               have HO258 := n1_
               have HO262 := n2_
               have HO265 := n3_
               have HO268 := n4_
               have HB := n5_
               clear n0_ n1_ n2_ n3_ n4_ n5_
               have hHeld := trivial
               refine norm_ (a' := ?_) ?_ ?_
               rotate_left
               ·simp only [putAll, Act.put, sA_, sB_, sC_]
                rfl
               refine two_ (i := 6) (j := 8) (Ni := some 65) (Nj := some 67) L7_ L8_ rfl rfl rfl rfl (two_of HT_.out (by kernel_rfl)) (by decide) (by decide) (fun K hK => ?_) (fun K hK => ?_)
               ·skip
                have hcv32 := own_string (P := Try.prog) Try.underlying23 Try.underlying5 Try.underlying9 (Kd.own_of_R HO268.out)
                refine value_ (w1 := ?_) (v := ?_) (by rfl) rfl ?_ ?_
                rotate_left 2
                ·go_simp
                 constructor
                 ·rfl
                 ·rfl
                clear hcv32
                refine hK.out _ _ trivial (fun hHeld => ?_)
                clear hK K
                refine norm_ (a' := ?_) ?_ ?_
                rotate_left
                ·show Act.put _ (some 65) _ = _
                 simp only [Act.put, sA_, sB_, sC_, i64_w]
                 rfl
                exact norm_ (by simp only [putAll, Act.put, sA_, sB_, sC_] <;> rfl) (hJ4_5_6 (v267) _ ⟨(mv2_ HO254.out), (mv2_ HO258.out), (mv2_ HO262.out), (mv2_ HO265.out), (mv2_ HO268.out), (bq_ HB.out)⟩)
               ·skip
                have hcv32 := own_string (P := Try.prog) Try.underlying23 Try.underlying5 Try.underlying9 (Kd.own_of_R HO258.out)
                refine value_ (w1 := ?_) (v := ?_) (by rfl) rfl ?_ ?_
                rotate_left 2
                ·go_simp
                 constructor
                 ·rfl
                 ·rfl
                clear hcv32
                refine hK.out _ _ trivial (fun hHeld => ?_)
                clear hK K
                refine norm_ (a' := ?_) ?_ ?_
                rotate_left
                ·show Act.put _ (some 67) _ = _
                 simp only [Act.put, sA_, sB_, sC_, i64_w]
                 rfl
                exact norm_ (by simp only [putAll, Act.put, sA_, sB_, sC_] <;> rfl) (hJ4_5_8 (v267) _ ⟨(mv2_ HO254.out), (mv2_ HO258.out), (mv2_ HO262.out), (mv2_ HO265.out), (mv2_ HO268.out), (bq_ HB.out)⟩)
             ·skip
              rintro v267 w32 ⟨h0_, h1_, h2_, h3_, h4_, h5_⟩
              have n0_ : Aside0 (Kd.R (Kd.int .u8) 5 w32 w.heap.size (fun k_ => some k_ ≠ (v257 : Value).ownBlock ∧ some k_ ≠ (.slice Ao19 t259.length co19 : Value).ownBlock ∧ some k_ ≠ (v264 : Value).ownBlock ∧ some k_ ≠ (v267 : Value).ownBlock) v253 t251) := ⟨h0_⟩
              have n1_ : Aside0 (Kd.R (Kd.int .u8) 5 w32 w.heap.size (fun k_ => some k_ ≠ (v253 : Value).ownBlock ∧ some k_ ≠ (.slice Ao19 t259.length co19 : Value).ownBlock ∧ some k_ ≠ (v264 : Value).ownBlock ∧ some k_ ≠ (v267 : Value).ownBlock) v257 t255) := ⟨h1_⟩
              have n2_ : Aside0 (Kd.R (Kd.int .u8) 5 w32 w.heap.size (fun k_ => some k_ ≠ (v253 : Value).ownBlock ∧ some k_ ≠ (v257 : Value).ownBlock ∧ some k_ ≠ (v264 : Value).ownBlock ∧ some k_ ≠ (v267 : Value).ownBlock) (.slice Ao19 t259.length co19) t259) := ⟨h2_⟩
              have n3_ : Aside0 (Kd.R (Kd.int .u8) 5 w32 w.heap.size (fun k_ => some k_ ≠ (v253 : Value).ownBlock ∧ some k_ ≠ (v257 : Value).ownBlock ∧ some k_ ≠ (.slice Ao19 t259.length co19 : Value).ownBlock ∧ some k_ ≠ (v267 : Value).ownBlock) v264 y263) := ⟨h3_⟩
              have n4_ : Aside0 (Kd.R (Kd.int .u8) 5 w32 w.heap.size (fun k_ => some k_ ≠ (v253 : Value).ownBlock ∧ some k_ ≠ (v257 : Value).ownBlock ∧ some k_ ≠ (.slice Ao19 t259.length co19 : Value).ownBlock ∧ some k_ ≠ (v264 : Value).ownBlock) v267 y266) := ⟨h4_⟩
              have n5_ : Aside0 (Below w.heap.size w w32) := ⟨h5_⟩
              clear HO254 HO258 HO262 HO265 HB h0_ h1_ h2_ h3_ h4_ h5_
              have HO254 := n0_
              have HO258 := n1_
              have HO262 := n2_
              have HO265 := n3_
              have HO268 := n4_
              have HB := n5_
              clear n0_ n1_ n2_ n3_ n4_ n5_
              have hHeld := trivial
              refine norm_ (a' := ?_) ?_ ?_
              rotate_left
              ·simp only [putAll, Act.put, sA_, sB_, sC_]
               rfl
              refine one_ (i := 4) (N := some 63) L6_ rfl rfl (one_of HT_.out (by kernel_rfl)) (by decide) (fun K hK => ?_)
              have hcv33 := own_string (P := Try.prog) Try.underlying23 Try.underlying5 Try.underlying9 (Kd.own_of_R HO262.out)
              refine value_ (w1 := ?_) (v := ?_) (by rfl) rfl ?_ ?_
              rotate_left 2
              ·go_simp
               constructor
               ·rfl
               ·rfl
              clear hcv33
              refine hK.out _ _ trivial (fun hHeld => ?_)
              clear hK K
              refine norm_ (a' := ?_) ?_ ?_
              rotate_left
              ·show Act.put _ (some 63) _ = _
               simp only [Act.put, sA_, sB_, sC_, i64_w]
               rfl
              exact norm_ (by simp only [putAll, Act.put, sA_, sB_, sC_] <;> rfl) (hJ4_5_6_8 (v267) _ ⟨(mv2_ HO254.out), (mv2_ HO258.out), (mv2_ HO262.out), (mv2_ HO265.out), (mv2_ HO268.out), (bq_ HB.out)⟩)
            ·skip
             rintro v267 w32 ⟨h0_, h1_, h2_, h3_, h4_, h5_⟩
             have n0_ : Aside0 (Kd.R (Kd.int .u8) 5 w32 w.heap.size (fun k_ => some k_ ≠ (v257 : Value).ownBlock ∧ some k_ ≠ (.slice Ao19 t259.length co19 : Value).ownBlock ∧ some k_ ≠ (v264 : Value).ownBlock ∧ some k_ ≠ (v267 : Value).ownBlock) v253 t251) := ⟨h0_⟩
             have n1_ : Aside0 (Kd.R (Kd.int .u8) 5 w32 w.heap.size (fun k_ => some k_ ≠ (v253 : Value).ownBlock ∧ some k_ ≠ (.slice Ao19 t259.length co19 : Value).ownBlock ∧ some k_ ≠ (v264 : Value).ownBlock ∧ some k_ ≠ (v267 : Value).ownBlock) v257 t255) := ⟨h1_⟩
             have n2_ : Aside0 (Kd.R (Kd.int .u8) 5 w32 w.heap.size (fun k_ => some k_ ≠ (v253 : Value).ownBlock ∧ some k_ ≠ (v257 : Value).ownBlock ∧ some k_ ≠ (v264 : Value).ownBlock ∧ some k_ ≠ (v267 : Value).ownBlock) (.slice Ao19 t259.length co19) t259) := ⟨h2_⟩
             have n3_ : Aside0 (Kd.R (Kd.int .u8) 5 w32 w.heap.size (fun k_ => some k_ ≠ (v253 : Value).ownBlock ∧ some k_ ≠ (v257 : Value).ownBlock ∧ some k_ ≠ (.slice Ao19 t259.length co19 : Value).ownBlock ∧ some k_ ≠ (v267 : Value).ownBlock) v264 y263) := ⟨h3_⟩
             have n4_ : Aside0 (Kd.R (Kd.int .u8) 5 w32 w.heap.size (fun k_ => some k_ ≠ (v253 : Value).ownBlock ∧ some k_ ≠ (v257 : Value).ownBlock ∧ some k_ ≠ (.slice Ao19 t259.length co19 : Value).ownBlock ∧ some k_ ≠ (v264 : Value).ownBlock) v267 y266) := ⟨h4_⟩
             have n5_ : Aside0 (Below w.heap.size w w32) := ⟨h5_⟩
             clear HO254 HO258 HO262 HO265 HB h0_ h1_ h2_ h3_ h4_ h5_
             have HO254 := n0_
             have HO258 := n1_
             have HO262 := n2_
             have HO265 := n3_
             have HO268 := n4_
             have HB := n5_
             clear n0_ n1_ n2_ n3_ n4_ n5_
             have hHeld := trivial
             refine norm_ (a' := ?_) ?_ ?_
             rotate_left
             ·simp only [putAll, Act.put, sA_, sB_, sC_]
              rfl
             refine one_ (i := 6) (N := some 65) L18_ rfl rfl (one_of HT_.out (by kernel_rfl)) (by decide) (fun K hK => ?_)
             have hcv33 := own_string (P := Try.prog) Try.underlying23 Try.underlying5 Try.underlying9 (Kd.own_of_R HO268.out)
             refine value_ (w1 := ?_) (v := ?_) (by rfl) rfl ?_ ?_
             rotate_left 2
             ·go_simp
              constructor
              ·rfl
              ·rfl
             clear hcv33
             refine hK.out _ _ trivial (fun hHeld => ?_)
             clear hK K
             refine norm_ (a' := ?_) ?_ ?_
             rotate_left
             ·show Act.put _ (some 65) _ = _
              simp only [Act.put, sA_, sB_, sC_, i64_w]
              rfl
             refine pure_ (i := 9) (N := some 68) (v := ?_) (a' := ?_) L6_ rfl rfl (any_of HT_.out (by kernel_rfl)) (fun _ _ _ h => h) (Or.inl ⟨by rfl, ?_⟩) ?_ ?_
             rotate_left
             ·intro w'
              go_simp
              with_reducible rfl
             rotate_left
             ·simp only [Act.put, sA_, sB_, sC_, i64_w]
              rfl
             exact norm_ (by simp only [putAll, Act.put, sA_, sB_, sC_] <;> rfl) (hJ4_5_6_8 (v267) _ ⟨(mv2_ HO254.out), (mv2_ HO258.out), (mv2_ HO262.out), (mv2_ HO265.out), (mv2_ HO268.out), (bq_ HB.out)⟩)
           ·skip
            rintro v267 w32 ⟨h0_, h1_, h2_, h3_, h4_, h5_⟩
            have n0_ : Aside0 (Kd.R (Kd.int .u8) 5 w32 w.heap.size (fun k_ => some k_ ≠ (v257 : Value).ownBlock ∧ some k_ ≠ (.slice Ao19 t259.length co19 : Value).ownBlock ∧ some k_ ≠ (v264 : Value).ownBlock ∧ some k_ ≠ (v267 : Value).ownBlock) v253 t251) := ⟨h0_⟩
            have n1_ : Aside0 (Kd.R (Kd.int .u8) 5 w32 w.heap.size (fun k_ => some k_ ≠ (v253 : Value).ownBlock ∧ some k_ ≠ (.slice Ao19 t259.length co19 : Value).ownBlock ∧ some k_ ≠ (v264 : Value).ownBlock ∧ some k_ ≠ (v267 : Value).ownBlock) v257 t255) := ⟨h1_⟩
            have n2_ : Aside0 (Kd.R (Kd.int .u8) 5 w32 w.heap.size (fun k_ => some k_ ≠ (v253 : Value).ownBlock ∧ some k_ ≠ (v257 : Value).ownBlock ∧ some k_ ≠ (v264 : Value).ownBlock ∧ some k_ ≠ (v267 : Value).ownBlock) (.slice Ao19 t259.length co19) t259) := ⟨h2_⟩
            have n3_ : Aside0 (Kd.R (Kd.int .u8) 5 w32 w.heap.size (fun k_ => some k_ ≠ (v253 : Value).ownBlock ∧ some k_ ≠ (v257 : Value).ownBlock ∧ some k_ ≠ (.slice Ao19 t259.length co19 : Value).ownBlock ∧ some k_ ≠ (v267 : Value).ownBlock) v264 y263) := ⟨h3_⟩
            have n4_ : Aside0 (Kd.R (Kd.int .u8) 5 w32 w.heap.size (fun k_ => some k_ ≠ (v253 : Value).ownBlock ∧ some k_ ≠ (v257 : Value).ownBlock ∧ some k_ ≠ (.slice Ao19 t259.length co19 : Value).ownBlock ∧ some k_ ≠ (v264 : Value).ownBlock) v267 y266) := ⟨h4_⟩
            have n5_ : Aside0 (Below w.heap.size w w32) := ⟨h5_⟩
            clear HO254 HO258 HO262 HO265 HB h0_ h1_ h2_ h3_ h4_ h5_
            have HO254 := n0_
            have HO258 := n1_
            have HO262 := n2_
            have HO265 := n3_
            have HO268 := n4_
            have HB := n5_
            clear n0_ n1_ n2_ n3_ n4_ n5_
            have hHeld := trivial
            refine norm_ (a' := ?_) ?_ ?_
            rotate_left
            ·simp only [putAll, Act.put, sA_, sB_, sC_]
             rfl
            refine one_ (i := 8) (N := some 67) L18_ rfl rfl (one_of HT_.out (by kernel_rfl)) (by decide) (fun K hK => ?_)
            have hcv33 := own_string (P := Try.prog) Try.underlying23 Try.underlying5 Try.underlying9 (Kd.own_of_R HO258.out)
            refine value_ (w1 := ?_) (v := ?_) (by rfl) rfl ?_ ?_
            rotate_left 2
            ·go_simp
             constructor
             ·rfl
             ·rfl
            clear hcv33
            refine hK.out _ _ trivial (fun hHeld => ?_)
            clear hK K
            refine norm_ (a' := ?_) ?_ ?_
            rotate_left
            ·show Act.put _ (some 67) _ = _
             simp only [Act.put, sA_, sB_, sC_, i64_w]
             rfl
            refine pure_ (i := 9) (N := some 68) (v := ?_) (a' := ?_) L6_ rfl rfl (any_of HT_.out (by kernel_rfl)) (fun _ _ _ h => h) (Or.inl ⟨by rfl, ?_⟩) ?_ ?_
            rotate_left
            ·intro w'
             go_simp
             with_reducible rfl
            rotate_left
            ·simp only [Act.put, sA_, sB_, sC_, i64_w]
             rfl
            exact norm_ (by simp only [putAll, Act.put, sA_, sB_, sC_] <;> rfl) (hJ4_5_6_8 (v267) _ ⟨(mv2_ HO254.out), (mv2_ HO258.out), (mv2_ HO262.out), (mv2_ HO265.out), (mv2_ HO268.out), (bq_ HB.out)⟩)
          rintro v267 w33 ⟨h0_, h1_, h2_, h3_, h4_, h5_⟩
          have n0_ : Aside0 (Kd.R (Kd.int .u8) 5 w33 w.heap.size (fun k_ => some k_ ≠ (v257 : Value).ownBlock ∧ some k_ ≠ (.slice Ao19 t259.length co19 : Value).ownBlock ∧ some k_ ≠ (v264 : Value).ownBlock ∧ some k_ ≠ (v267 : Value).ownBlock) v253 t251) := ⟨h0_⟩
          have n1_ : Aside0 (Kd.R (Kd.int .u8) 5 w33 w.heap.size (fun k_ => some k_ ≠ (v253 : Value).ownBlock ∧ some k_ ≠ (.slice Ao19 t259.length co19 : Value).ownBlock ∧ some k_ ≠ (v264 : Value).ownBlock ∧ some k_ ≠ (v267 : Value).ownBlock) v257 t255) := ⟨h1_⟩
          have n2_ : Aside0 (Kd.R (Kd.int .u8) 5 w33 w.heap.size (fun k_ => some k_ ≠ (v253 : Value).ownBlock ∧ some k_ ≠ (v257 : Value).ownBlock ∧ some k_ ≠ (v264 : Value).ownBlock ∧ some k_ ≠ (v267 : Value).ownBlock) (.slice Ao19 t259.length co19) t259) := ⟨h2_⟩
          have n3_ : Aside0 (Kd.R (Kd.int .u8) 5 w33 w.heap.size (fun k_ => some k_ ≠ (v253 : Value).ownBlock ∧ some k_ ≠ (v257 : Value).ownBlock ∧ some k_ ≠ (.slice Ao19 t259.length co19 : Value).ownBlock ∧ some k_ ≠ (v267 : Value).ownBlock) v264 y263) := ⟨h3_⟩
          have n4_ : Aside0 (Kd.R (Kd.int .u8) 5 w33 w.heap.size (fun k_ => some k_ ≠ (v253 : Value).ownBlock ∧ some k_ ≠ (v257 : Value).ownBlock ∧ some k_ ≠ (.slice Ao19 t259.length co19 : Value).ownBlock ∧ some k_ ≠ (v264 : Value).ownBlock) v267 y266) := ⟨h4_⟩
          have n5_ : Aside0 (Below w.heap.size w w33) := ⟨h5_⟩
          clear HO254 HO258 HO262 HO265 HB h0_ h1_ h2_ h3_ h4_ h5_
          have HO254 := n0_
          have HO258 := n1_
          have HO262 := n2_
          have HO265 := n3_
          have HO268 := n4_
          have HB := n5_
          clear n0_ n1_ n2_ n3_ n4_ n5_
          have hHeld := trivial
          refine norm_ (a' := ?_) ?_ ?_
          rotate_left
          ·simp only [putAll, Act.put, sA_, sB_, sC_]
           rfl
          refine pure_ (i := 10) (N := some 69) (v := ?_) (a' := ?_) L19_ rfl rfl (any_of HT_.out (by kernel_rfl)) (fun _ _ _ h => h) (Or.inl ⟨by rfl, ?_⟩) ?_ ?_
          rotate_left
          ·intro w'
           go_simp
           with_reducible rfl
          rotate_left
          ·simp only [Act.put, sA_, sB_, sC_, i64_w]
           rfl
          refine pure_ (i := 11) (N := some 70) (v := ?_) (a' := ?_) L20_ rfl rfl (any_of HT_.out (by kernel_rfl)) (fun _ _ _ h => h) (Or.inl ⟨by rfl, ?_⟩) ?_ ?_
          rotate_left
          ·intro w'
           go_simp
           with_reducible rfl
          rotate_left
          ·simp only [Act.put, sA_, sB_, sC_, i64_w]
           rfl
          refine pure_ (i := 12) (N := some 71) (v := ?_) (a' := ?_) L21_ rfl rfl (any_of HT_.out (by kernel_rfl)) (fun _ _ _ h => h) (Or.inl ⟨by rfl, ?_⟩) ?_ ?_
          rotate_left
          ·intro w'
           go_simp
           with_reducible rfl
          rotate_left
          ·simp only [Act.put, sA_, sB_, sC_, i64_w]
           rfl
          refine pure_ (i := 13) (N := some 72) (v := undef) (a' := ?_) L22_ rfl rfl (any_of HT_.out (by kernel_rfl)) (fun _ _ _ h => h) (Or.inr ⟨by rfl, rfl⟩) ?_ ?_
          rotate_left
          ·simp only [Act.put, sA_, sB_, sC_, i64_w]
           rfl
          refine pure_ (i := 14) (N := some 73) (v := undef) (a' := ?_) L23_ rfl rfl (any_of HT_.out (by kernel_rfl)) (fun _ _ _ h => h) (Or.inr ⟨by rfl, rfl⟩) ?_ ?_
          rotate_left
          ·simp only [Act.put, sA_, sB_, sC_, i64_w]
           rfl
          refine pure_ (i := 15) (N := some 74) (v := undef) (a' := ?_) L24_ rfl rfl (any_of HT_.out (by kernel_rfl)) (fun _ _ _ h => h) (Or.inr ⟨by rfl, rfl⟩) ?_ ?_
          rotate_left
          ·simp only [Act.put, sA_, sB_, sC_, i64_w]
           rfl
          refine pure_ (i := 16) (N := some 75) (v := undef) (a' := ?_) L25_ rfl rfl (any_of HT_.out (by kernel_rfl)) (fun _ _ _ h => h) (Or.inr ⟨by rfl, rfl⟩) ?_ ?_
          rotate_left
          ·simp only [Act.put, sA_, sB_, sC_, i64_w]
           rfl
          refine pure_ (i := 17) (N := some 76) (v := undef) (a' := ?_) L26_ rfl rfl (any_of HT_.out (by kernel_rfl)) (fun _ _ _ h => h) (Or.inr ⟨by rfl, rfl⟩) ?_ ?_
          rotate_left
          ·simp only [Act.put, sA_, sB_, sC_, i64_w]
           rfl
          refine pure_ (i := 18) (N := some 77) (v := undef) (a' := ?_) L27_ rfl rfl (any_of HT_.out (by kernel_rfl)) (fun _ _ _ h => h) (Or.inr ⟨by rfl, rfl⟩) ?_ ?_
          rotate_left
          ·simp only [Act.put, sA_, sB_, sC_, i64_w]
           rfl
          refine pure_ (i := 19) (N := some 78) (v := undef) (a' := ?_) L28_ rfl rfl (any_of HT_.out (by kernel_rfl)) (fun _ _ _ h => h) (Or.inr ⟨by rfl, rfl⟩) ?_ ?_
          rotate_left
          ·simp only [Act.put, sA_, sB_, sC_, i64_w]
           rfl
          refine pure_ (i := 20) (N := some 79) (v := undef) (a' := ?_) L29_ rfl rfl (any_of HT_.out (by kernel_rfl)) (fun _ _ _ h => h) (Or.inr ⟨by rfl, rfl⟩) ?_ ?_
          rotate_left
          ·simp only [Act.put, sA_, sB_, sC_, i64_w]
           rfl
          refine pure_ (i := 21) (N := some 80) (v := undef) (a' := ?_) L30_ rfl rfl (any_of HT_.out (by kernel_rfl)) (fun _ _ _ h => h) (Or.inr ⟨by rfl, rfl⟩) ?_ ?_
          rotate_left
          ·simp only [Act.put, sA_, sB_, sC_, i64_w]
           rfl
          refine pure_ (i := 22) (N := some 81) (v := undef) (a' := ?_) L31_ rfl rfl (any_of HT_.out (by kernel_rfl)) (fun _ _ _ h => h) (Or.inr ⟨by rfl, rfl⟩) ?_ ?_
          rotate_left
          ·simp only [Act.put, sA_, sB_, sC_, i64_w]
           rfl
          refine pure_ (i := 23) (N := some 82) (v := ?_) (a' := ?_) L32_ rfl rfl (any_of HT_.out (by kernel_rfl)) (fun _ _ _ h => h) (Or.inl ⟨by rfl, ?_⟩) ?_ ?_
          rotate_left
          ·intro w'
           go_simp
           with_reducible rfl
          rotate_left
          ·simp only [Act.put, sA_, sB_, sC_, i64_w]
           rfl
          refine pure_ (i := 24) (N := some 11) (v := ?_) (a' := ?_) L33_ rfl rfl (any_of HT_.out (by kernel_rfl)) (fun _ _ _ h => h) (Or.inl ⟨by rfl, ?_⟩) ?_ ?_
          rotate_left
          ·intro w'
           go_simp
           with_reducible rfl
          rotate_left
          ·simp only [Act.put, sA_, sB_, sC_, i64_w]
           rfl
          refine done_ (done_of HT_.out (by kernel_rfl)) ?_
          try go_wp2
          go_ret
          exact ⟨by first | rfl | (simp [errW_none, errW_some] <;> rfl) | (simp [*, errW_none, errW_some] <;> rfl), by repeat (first | (with_reducible first | exact HB.out | apply below_alloc | apply pw_below_drewN | apply below_drew1) | exact HB.out)⟩
         ·replace c14 := Bool.eq_false_iff.mpr c14
          subst c14
          have H1 : (none) = some r := by rw [if_neg (show ¬ (false = true) by decide)] at H; exact H
          clear H
          have H := H1
          clear H1
          exact absurd H (by simp)
        ·rw [if_neg c13] at H
         exact absurd H (by simp)
       ·rw [if_neg c12] at H
        exact absurd H (by simp)
      ·rw [if_neg c11] at H
       exact absurd H (by simp)
     ·rw [if_neg c10] at H
      exact absurd H (by simp)
    ·rw [if_neg c9] at H
     exact absurd H (by simp)
   ·rw [if_neg c8] at H
    have c8b0 : (t252 == 0) = false := beq_eq_false_iff_ne.mpr c8
    have c8b1 : (t252 != 0) = true := bne_iff_ne.mpr c8
    by_cases c34 : t252 = 40
    ·rw [if_pos c34] at H
     have c34b0 : (t252 == 40) = true := beq_iff_eq.mpr c34
     have c34b1 : (t252 != 40) = false := bne_eq_false_iff_eq.mpr c34
     clear c34
     by_cases c35 : a0 < 0
     ·rw [if_pos c35] at H
      have c35b0 : decide (a0 < 0) = true := decide_eq_true c35
      clear c35
      by_cases c36 : t256 = 0
      ·rw [if_pos c36] at H
       exact absurd H (by simp)
      ·rw [if_neg c36] at H
       have c36b0 : (t256 == 0) = false := beq_eq_false_iff_ne.mpr c36
       have c36b1 : (t256 != 0) = true := bne_iff_ne.mpr c36
       by_cases c37 : t256 = 40
       ·rw [if_pos c37] at H
        have c37b0 : (t256 == 40) = true := beq_iff_eq.mpr c37
        have c37b1 : (t256 != 40) = false := bne_eq_false_iff_eq.mpr c37
        clear c37
        by_cases c38 : t250 = true
        ·subst c38
         have H1 : (some true) = some r := by rw [if_pos rfl] at H; exact H
         clear H
         have H := H1
         clear H1
         obtain rfl := Option.some.inj H
         go_enter Try.func7, Try.ntmps7
         try go_wp2_with (first | ((with_reducible refine gate_callee (f := 8) rfl ?_); refine goesL_ (some 12) rfl rfl Try.func8 (by kernel_rfl) rfl #[] rfl (by (try simp only [List.map_toArray, List.map_cons, List.map_nil]); first | done | rfl) ?_; (with_reducible refine (fullerlaw08_awake.calls k  true _ A2.out).mono ?_); rintro e w39 ⟨rfl, hb⟩; refine ⟨_, rfl, ?_⟩; have n0_ := Aside0.mk (below_step (bq_ HB.out) hb); clear HB; have HB := n0_; clear n0_; (try clear hb)) | ((with_reducible refine gate_callee (f := 9) rfl ?_); refine goesL_ (some 15) rfl rfl Try.func9 (by kernel_rfl) rfl #[.slice none 0 0, .int .i64 a0, .int .i64 1] rfl (by (try simp only [List.map_toArray, List.map_cons, List.map_nil]); first | done | rfl) ?_; (refine (pack_Put.calls _ _ ([] : List Int) a0 1 t251 t252 _ ?side1 ?side2 A3.out).mono ?_); (case side1 => exact Kd.C_nil _ _); (case side2 => exact Nat.le_refl _); rintro e w40 ⟨v253, rfl, ho0, hb⟩; refine ⟨_, rfl, ?_⟩; have n0_ := Aside0.mk (Kd.R_lower ho0 (below_size (bq_ HB.out))); have n1_ := Aside0.mk (below_step (bq_ HB.out) hb); clear HB; have HO254 := n0_; have HB := n1_; clear n0_ n1_; (try clear hb); (try clear ho0)) | ((with_reducible refine gate_callee (f := 9) rfl ?_); refine goesL_ (some 20) rfl rfl Try.func9 (by kernel_rfl) rfl #[.slice none 0 0, .int .i64 a0, .int .i64 2] rfl (by (try simp only [List.map_toArray, List.map_cons, List.map_nil]); first | done | rfl) ?_; (refine (pack_Put.calls _ _ ([] : List Int) a0 2 t255 t256 _ ?side1 ?side2 A4.out).mono ?_); (case side1 => exact Kd.C_nil _ _); (case side2 => exact Nat.le_refl _); rintro e w41 ⟨v257, rfl, ho0, hb⟩; refine ⟨_, rfl, ?_⟩; have n0_ := Aside0.mk (Kd.R_elder' (mv2_ HO254.out) (Kd.R_base ho0) hb); have n1_ := Aside0.mk (Kd.R_lower (Kd.R_new' ho0 (Kd.R_lt (mv2_ HO254.out))) (below_size (bq_ HB.out))); have n2_ := Aside0.mk (below_step (bq_ HB.out) hb); clear HO254; clear HB; have HO254 := n0_; have HO258 := n1_; have HB := n2_; clear n0_ n1_ n2_; (try clear hb); (try clear ho0)) | ((with_reducible refine gate_callee (f := 9) rfl ?_); refine goesL_ (some 25) rfl rfl Try.func9 (by kernel_rfl) rfl #[.slice none 0 0, .int .i64 a0, .int .i64 8] rfl (by (try simp only [List.map_toArray, List.map_cons, List.map_nil]); first | done | rfl) ?_; (refine (pack_Put.calls _ _ ([] : List Int) a0 8 t259 t260 _ ?side1 ?side2 A5.out).mono ?_); (case side1 => exact Kd.C_nil _ _); (case side2 => exact Nat.le_refl _); rintro e w42 ⟨v261, rfl, ho0, hb⟩; refine ⟨_, rfl, ?_⟩; have n0_ := Aside0.mk (Kd.R_elder' (mv2_ HO254.out) (Kd.R_base ho0) hb); have n1_ := Aside0.mk (Kd.R_elder' (mv2_ HO258.out) (Kd.R_base ho0) hb); have n2_ := Aside0.mk (Kd.R_lower (Kd.R_new' (Kd.R_new' ho0 (Kd.R_lt (mv2_ HO254.out))) (Kd.R_lt (mv2_ HO258.out))) (below_size (bq_ HB.out))); have n3_ := Aside0.mk (below_step (bq_ HB.out) hb); clear HO254; clear HO258; clear HB; have HO254 := n0_; have HO258 := n1_; have HO262 := n2_; have HB := n3_; clear n0_ n1_ n2_ n3_; (try clear hb); (try clear ho0); obtain ⟨Ao43, co43, eo43⟩ := Kd.R_slice HO262.out; subst eo43))
         have n0_ := Aside0.mk (Kd.R_drew HO254.out)
         have n1_ := Aside0.mk (Kd.R_drew HO258.out)
         have n2_ := Aside0.mk (Kd.R_drew HO262.out)
         have n3_ := Aside0.mk (below_drew1 HB.out)
         clear HO254 HO258 HO262 HB
         have HO254 := n0_
         have HO258 := n1_
         have HO262 := n2_
         have HB := n3_
         clear n0_ n1_ n2_ n3_
         refine start_ (n := 25) (S := fun w' => True) (ds := []) L0_ (by kernel_rfl) rfl rfl trivial (fun hHeld => ?_); refine with_tabW fullerlaw08_PackWide.tab7 fullerlaw08_PackWide.bits7 (fun HT_ HW_ => ?_)
         generalize w42.drew = w44 at HO254 HO258 HO262 HB hHeld ⊢
         refine pure_ (i := 0) (N := some 35) (v := ?_) (a' := ?_) L1_ rfl rfl (any_of HT_.out (by kernel_rfl)) (fun _ _ _ h => h) (Or.inl ⟨by rfl, ?_⟩) ?_ ?_
         rotate_left
         ·intro w'
          go_simp
          with_reducible rfl
         rotate_left
         ·simp only [Act.put, sA_, sB_, sC_, i64_w]
          rfl
         refine pure_ (i := 1) (N := some 36) (v := ?_) (a' := ?_) L2_ rfl rfl (any_of HT_.out (by kernel_rfl)) (fun _ _ _ h => h) (Or.inl ⟨by rfl, ?_⟩) ?_ ?_
         rotate_left
         ·intro w'
          go_simp
          with_reducible rfl
         rotate_left
         ·simp only [Act.put, sA_, sB_, sC_, i64_w]
          rfl
         refine pure_ (i := 2) (N := some 37) (v := ?_) (a' := ?_) L3_ rfl rfl (any_of HT_.out (by kernel_rfl)) (fun _ _ _ h => h) (Or.inl ⟨by rfl, ?_⟩) ?_ ?_
         rotate_left
         ·intro w'
          go_simp
          with_reducible rfl
         rotate_left
         ·simp only [Act.put, sA_, sB_, sC_, i64_w]
          rfl
         refine pure_ (i := 3) (N := some 38) (v := undef) (a' := ?_) L4_ rfl rfl (any_of HT_.out (by kernel_rfl)) (fun _ _ _ h => h) (Or.inr ⟨by rfl, rfl⟩) ?_ ?_
         rotate_left
         ·simp only [Act.put, sA_, sB_, sC_, i64_w]
          rfl
         refine pure_ (i := 4) (N := some 39) (v := undef) (a' := ?_) L34_ rfl rfl (any_of HT_.out (by kernel_rfl)) (fun _ _ _ h => h) (Or.inr ⟨by rfl, rfl⟩) ?_ ?_
         rotate_left
         ·simp only [Act.put, sA_, sB_, sC_, i64_w]
          rfl
         refine pure_ (i := 5) (N := some 40) (v := undef) (a' := ?_) L35_ rfl rfl (any_of HT_.out (by kernel_rfl)) (fun _ _ _ h => h) (Or.inr ⟨by rfl, rfl⟩) ?_ ?_
         rotate_left
         ·simp only [Act.put, sA_, sB_, sC_, i64_w]
          rfl
         refine pure_ (i := 6) (N := some 41) (v := undef) (a' := ?_) L36_ rfl rfl (any_of HT_.out (by kernel_rfl)) (fun _ _ _ h => h) (Or.inr ⟨by rfl, rfl⟩) ?_ ?_
         rotate_left
         ·simp only [Act.put, sA_, sB_, sC_, i64_w]
          rfl
         refine pure_ (i := 7) (N := some 42) (v := undef) (a' := ?_) L7_ rfl rfl (any_of HT_.out (by kernel_rfl)) (fun _ _ _ h => h) (Or.inr ⟨by rfl, rfl⟩) ?_ ?_
         rotate_left
         ·simp only [Act.put, sA_, sB_, sC_, i64_w]
          rfl
         refine pure_ (i := 8) (N := some 43) (v := undef) (a' := ?_) L18_ rfl rfl (any_of HT_.out (by kernel_rfl)) (fun _ _ _ h => h) (Or.inr ⟨by rfl, rfl⟩) ?_ ?_
         rotate_left
         ·simp only [Act.put, sA_, sB_, sC_, i64_w]
          rfl
         refine pure_ (i := 9) (N := some 44) (v := undef) (a' := ?_) L6_ rfl rfl (any_of HT_.out (by kernel_rfl)) (fun _ _ _ h => h) (Or.inr ⟨by rfl, rfl⟩) ?_ ?_
         rotate_left
         ·simp only [Act.put, sA_, sB_, sC_, i64_w]
          rfl
         refine pure_ (i := 10) (N := some 45) (v := undef) (a' := ?_) L19_ rfl rfl (any_of HT_.out (by kernel_rfl)) (fun _ _ _ h => h) (Or.inr ⟨by rfl, rfl⟩) ?_ ?_
         rotate_left
         ·simp only [Act.put, sA_, sB_, sC_, i64_w]
          rfl
         refine pure_ (i := 11) (N := some 46) (v := ?_) (a' := ?_) L20_ rfl rfl (any_of HT_.out (by kernel_rfl)) (fun _ _ _ h => h) (Or.inl ⟨by rfl, ?_⟩) ?_ ?_
         rotate_left
         ·intro w'
          go_simp
          with_reducible rfl
         rotate_left
         ·simp only [Act.put, sA_, sB_, sC_, i64_w]
          rfl
         refine pure_ (i := 12) (N := some 47) (v := ?_) (a' := ?_) L21_ rfl rfl (any_of HT_.out (by kernel_rfl)) (fun _ _ _ h => h) (Or.inl ⟨by rfl, ?_⟩) ?_ ?_
         rotate_left
         ·intro w'
          go_simp
          with_reducible rfl
         rotate_left
         ·simp only [Act.put, sA_, sB_, sC_, i64_w]
          rfl
         refine pure_ (i := 13) (N := some 48) (v := ?_) (a' := ?_) L22_ rfl rfl (any_of HT_.out (by kernel_rfl)) (fun _ _ _ h => h) (Or.inl ⟨by rfl, ?_⟩) ?_ ?_
         rotate_left
         ·intro w'
          go_simp
          with_reducible rfl
         rotate_left
         ·simp only [Act.put, sA_, sB_, sC_, i64_w]
          rfl
         refine pure_ (i := 14) (N := some 49) (v := ?_) (a' := ?_) L23_ rfl rfl (any_of HT_.out (by kernel_rfl)) (fun _ _ _ h => h) (Or.inl ⟨by rfl, ?_⟩) ?_ ?_
         rotate_left
         ·intro w'
          go_simp
          with_reducible rfl
         rotate_left
         ·simp only [Act.put, sA_, sB_, sC_, i64_w]
          rfl
         refine pure_ (i := 15) (N := some 50) (v := ?_) (a' := ?_) L24_ rfl rfl (any_of HT_.out (by kernel_rfl)) (fun _ _ _ h => h) (Or.inl ⟨by rfl, ?_⟩) ?_ ?_
         rotate_left
         ·intro w'
          go_simp
          with_reducible rfl
         rotate_left
         ·simp only [Act.put, sA_, sB_, sC_, i64_w]
          rfl
         refine pure_ (i := 16) (N := some 51) (v := ?_) (a' := ?_) L25_ rfl rfl (any_of HT_.out (by kernel_rfl)) (fun _ _ _ h => h) (Or.inl ⟨by rfl, ?_⟩) ?_ ?_
         rotate_left
         ·intro w'
          go_simp
          with_reducible rfl
         rotate_left
         ·simp only [Act.put, sA_, sB_, sC_, i64_w]
          rfl
         refine pure_ (i := 17) (N := some 52) (v := ?_) (a' := ?_) L26_ rfl rfl (any_of HT_.out (by kernel_rfl)) (fun _ _ _ h => h) (Or.inl ⟨by rfl, ?_⟩) ?_ ?_
         rotate_left
         ·intro w'
          go_simp
          with_reducible rfl
         rotate_left
         ·simp only [Act.put, sA_, sB_, sC_, i64_w]
          rfl
         refine pure_ (i := 18) (N := some 53) (v := ?_) (a' := ?_) L27_ rfl rfl (any_of HT_.out (by kernel_rfl)) (fun _ _ _ h => h) (Or.inl ⟨by rfl, ?_⟩) ?_ ?_
         rotate_left
         ·intro w'
          go_simp
          with_reducible rfl
         rotate_left
         ·simp only [Act.put, sA_, sB_, sC_, i64_w]
          rfl
         refine pure_ (i := 19) (N := some 54) (v := undef) (a' := ?_) L28_ rfl rfl (any_of HT_.out (by kernel_rfl)) (fun _ _ _ h => h) (Or.inr ⟨by rfl, rfl⟩) ?_ ?_
         rotate_left
         ·simp only [Act.put, sA_, sB_, sC_, i64_w]
          rfl
         refine pure_ (i := 20) (N := some 55) (v := undef) (a' := ?_) L29_ rfl rfl (any_of HT_.out (by kernel_rfl)) (fun _ _ _ h => h) (Or.inr ⟨by rfl, rfl⟩) ?_ ?_
         rotate_left
         ·simp only [Act.put, sA_, sB_, sC_, i64_w]
          rfl
         refine pure_ (i := 21) (N := some 56) (v := ?_) (a' := ?_) L30_ rfl rfl (any_of HT_.out (by kernel_rfl)) (fun _ _ _ h => h) (Or.inl ⟨by rfl, ?_⟩) ?_ ?_
         rotate_left
         ·intro w'
          go_simp
          with_reducible rfl
         rotate_left
         ·simp only [Act.put, sA_, sB_, sC_, i64_w]
          rfl
         refine pure_ (i := 22) (N := some 57) (v := ?_) (a' := ?_) L31_ rfl rfl (any_of HT_.out (by kernel_rfl)) (fun _ _ _ h => h) (Or.inl ⟨by rfl, ?_⟩) ?_ ?_
         rotate_left
         ·intro w'
          go_simp
          with_reducible rfl
         rotate_left
         ·simp only [Act.put, sA_, sB_, sC_, i64_w]
          rfl
         refine pure_ (i := 23) (N := some 58) (v := ?_) (a' := ?_) L32_ rfl rfl (any_of HT_.out (by kernel_rfl)) (fun _ _ _ h => h) (Or.inl ⟨by rfl, ?_⟩) ?_ ?_
         rotate_left
         ·intro w'
          go_simp
          with_reducible rfl
         rotate_left
         ·simp only [Act.put, sA_, sB_, sC_, i64_w]
          rfl
         refine pure_ (i := 24) (N := some 10) (v := ?_) (a' := ?_) L33_ rfl rfl (any_of HT_.out (by kernel_rfl)) (fun _ _ _ h => h) (Or.inl ⟨by rfl, ?_⟩) ?_ ?_
         rotate_left
         ·intro w'
          go_simp
          with_reducible rfl
         rotate_left
         ·simp only [Act.put, sA_, sB_, sC_, i64_w]
          rfl
         refine done_ (done_of HT_.out (by kernel_rfl)) ?_
         try go_wp2
         have n0_ := Aside0.mk (Kd.R_drew HO254.out)
         have n1_ := Aside0.mk (Kd.R_drew HO258.out)
         have n2_ := Aside0.mk (Kd.R_drew HO262.out)
         have n3_ := Aside0.mk (below_drew1 HB.out)
         clear HO254 HO258 HO262 HB
         have HO254 := n0_
         have HO258 := n1_
         have HO262 := n2_
         have HB := n3_
         clear n0_ n1_ n2_ n3_
         refine start_ (n := 25) (S := fun w' => True) (ds := []) L0_ (by kernel_rfl) rfl rfl trivial (fun hHeld => ?_); refine with_tabW fullerlaw08_PackWide.tab8 fullerlaw08_PackWide.bits8 (fun HT_ HW_ => ?_)
         generalize w44.drew = w45 at HO254 HO258 HO262 HB hHeld ⊢
         refine pure_ (i := 0) (N := some 59) (v := ?_) (a' := ?_) L1_ rfl rfl (any_of HT_.out (by kernel_rfl)) (fun _ _ _ h => h) (Or.inl ⟨by rfl, ?_⟩) ?_ ?_
         rotate_left
         ·intro w'
          go_simp
          with_reducible rfl
         rotate_left
         ·simp only [Act.put, sA_, sB_, sC_, i64_w]
          rfl
         refine pure_ (i := 1) (N := some 60) (v := ?_) (a' := ?_) L2_ rfl rfl (any_of HT_.out (by kernel_rfl)) (fun _ _ _ h => h) (Or.inl ⟨by rfl, ?_⟩) ?_ ?_
         rotate_left
         ·intro w'
          go_simp
          with_reducible rfl
         rotate_left
         ·simp only [Act.put, sA_, sB_, sC_, i64_w]
          rfl
         refine pure_ (i := 2) (N := some 61) (v := ?_) (a' := ?_) L3_ rfl rfl (any_of HT_.out (by kernel_rfl)) (fun _ _ _ h => h) (Or.inl ⟨by rfl, ?_⟩) ?_ ?_
         rotate_left
         ·intro w'
          go_simp
          with_reducible rfl
         rotate_left
         ·simp only [Act.put, sA_, sB_, sC_, i64_w]
          rfl
         refine pure_ (i := 3) (N := some 62) (v := undef) (a' := ?_) L4_ rfl rfl (any_of HT_.out (by kernel_rfl)) (fun _ _ _ h => h) (Or.inr ⟨by rfl, rfl⟩) ?_ ?_
         rotate_left
         ·simp only [Act.put, sA_, sB_, sC_, i64_w]
          rfl
         refine pure_ (i := 4) (N := some 63) (v := undef) (a' := ?_) L34_ rfl rfl (any_of HT_.out (by kernel_rfl)) (fun _ _ _ h => h) (Or.inr ⟨by rfl, rfl⟩) ?_ ?_
         rotate_left
         ·simp only [Act.put, sA_, sB_, sC_, i64_w]
          rfl
         refine pure_ (i := 5) (N := some 64) (v := undef) (a' := ?_) L35_ rfl rfl (any_of HT_.out (by kernel_rfl)) (fun _ _ _ h => h) (Or.inr ⟨by rfl, rfl⟩) ?_ ?_
         rotate_left
         ·simp only [Act.put, sA_, sB_, sC_, i64_w]
          rfl
         refine pure_ (i := 6) (N := some 65) (v := undef) (a' := ?_) L36_ rfl rfl (any_of HT_.out (by kernel_rfl)) (fun _ _ _ h => h) (Or.inr ⟨by rfl, rfl⟩) ?_ ?_
         rotate_left
         ·simp only [Act.put, sA_, sB_, sC_, i64_w]
          rfl
         refine pure_ (i := 7) (N := some 66) (v := undef) (a' := ?_) L7_ rfl rfl (any_of HT_.out (by kernel_rfl)) (fun _ _ _ h => h) (Or.inr ⟨by rfl, rfl⟩) ?_ ?_
         rotate_left
         ·simp only [Act.put, sA_, sB_, sC_, i64_w]
          rfl
         refine pure_ (i := 8) (N := some 67) (v := undef) (a' := ?_) L18_ rfl rfl (any_of HT_.out (by kernel_rfl)) (fun _ _ _ h => h) (Or.inr ⟨by rfl, rfl⟩) ?_ ?_
         rotate_left
         ·simp only [Act.put, sA_, sB_, sC_, i64_w]
          rfl
         refine pure_ (i := 9) (N := some 68) (v := undef) (a' := ?_) L6_ rfl rfl (any_of HT_.out (by kernel_rfl)) (fun _ _ _ h => h) (Or.inr ⟨by rfl, rfl⟩) ?_ ?_
         rotate_left
         ·simp only [Act.put, sA_, sB_, sC_, i64_w]
          rfl
         refine pure_ (i := 10) (N := some 69) (v := undef) (a' := ?_) L19_ rfl rfl (any_of HT_.out (by kernel_rfl)) (fun _ _ _ h => h) (Or.inr ⟨by rfl, rfl⟩) ?_ ?_
         rotate_left
         ·simp only [Act.put, sA_, sB_, sC_, i64_w]
          rfl
         refine pure_ (i := 11) (N := some 70) (v := ?_) (a' := ?_) L20_ rfl rfl (any_of HT_.out (by kernel_rfl)) (fun _ _ _ h => h) (Or.inl ⟨by rfl, ?_⟩) ?_ ?_
         rotate_left
         ·intro w'
          go_simp
          with_reducible rfl
         rotate_left
         ·simp only [Act.put, sA_, sB_, sC_, i64_w]
          rfl
         refine pure_ (i := 12) (N := some 71) (v := ?_) (a' := ?_) L21_ rfl rfl (any_of HT_.out (by kernel_rfl)) (fun _ _ _ h => h) (Or.inl ⟨by rfl, ?_⟩) ?_ ?_
         rotate_left
         ·intro w'
          go_simp
          with_reducible rfl
         rotate_left
         ·simp only [Act.put, sA_, sB_, sC_, i64_w]
          rfl
         refine pure_ (i := 13) (N := some 72) (v := ?_) (a' := ?_) L22_ rfl rfl (any_of HT_.out (by kernel_rfl)) (fun _ _ _ h => h) (Or.inl ⟨by rfl, ?_⟩) ?_ ?_
         rotate_left
         ·intro w'
          go_simp
          with_reducible rfl
         rotate_left
         ·simp only [Act.put, sA_, sB_, sC_, i64_w]
          rfl
         refine pure_ (i := 14) (N := some 73) (v := ?_) (a' := ?_) L23_ rfl rfl (any_of HT_.out (by kernel_rfl)) (fun _ _ _ h => h) (Or.inl ⟨by rfl, ?_⟩) ?_ ?_
         rotate_left
         ·intro w'
          go_simp
          with_reducible rfl
         rotate_left
         ·simp only [Act.put, sA_, sB_, sC_, i64_w]
          rfl
         refine pure_ (i := 15) (N := some 74) (v := ?_) (a' := ?_) L24_ rfl rfl (any_of HT_.out (by kernel_rfl)) (fun _ _ _ h => h) (Or.inl ⟨by rfl, ?_⟩) ?_ ?_
         rotate_left
         ·intro w'
          go_simp
          with_reducible rfl
         rotate_left
         ·simp only [Act.put, sA_, sB_, sC_, i64_w]
          rfl
         refine pure_ (i := 16) (N := some 75) (v := ?_) (a' := ?_) L25_ rfl rfl (any_of HT_.out (by kernel_rfl)) (fun _ _ _ h => h) (Or.inl ⟨by rfl, ?_⟩) ?_ ?_
         rotate_left
         ·intro w'
          go_simp
          with_reducible rfl
         rotate_left
         ·simp only [Act.put, sA_, sB_, sC_, i64_w]
          rfl
         refine pure_ (i := 17) (N := some 76) (v := ?_) (a' := ?_) L26_ rfl rfl (any_of HT_.out (by kernel_rfl)) (fun _ _ _ h => h) (Or.inl ⟨by rfl, ?_⟩) ?_ ?_
         rotate_left
         ·intro w'
          go_simp
          with_reducible rfl
         rotate_left
         ·simp only [Act.put, sA_, sB_, sC_, i64_w]
          rfl
         refine pure_ (i := 18) (N := some 77) (v := ?_) (a' := ?_) L27_ rfl rfl (any_of HT_.out (by kernel_rfl)) (fun _ _ _ h => h) (Or.inl ⟨by rfl, ?_⟩) ?_ ?_
         rotate_left
         ·intro w'
          go_simp
          with_reducible rfl
         rotate_left
         ·simp only [Act.put, sA_, sB_, sC_, i64_w]
          rfl
         refine pure_ (i := 19) (N := some 78) (v := undef) (a' := ?_) L28_ rfl rfl (any_of HT_.out (by kernel_rfl)) (fun _ _ _ h => h) (Or.inr ⟨by rfl, rfl⟩) ?_ ?_
         rotate_left
         ·simp only [Act.put, sA_, sB_, sC_, i64_w]
          rfl
         refine pure_ (i := 20) (N := some 79) (v := undef) (a' := ?_) L29_ rfl rfl (any_of HT_.out (by kernel_rfl)) (fun _ _ _ h => h) (Or.inr ⟨by rfl, rfl⟩) ?_ ?_
         rotate_left
         ·simp only [Act.put, sA_, sB_, sC_, i64_w]
          rfl
         refine pure_ (i := 21) (N := some 80) (v := ?_) (a' := ?_) L30_ rfl rfl (any_of HT_.out (by kernel_rfl)) (fun _ _ _ h => h) (Or.inl ⟨by rfl, ?_⟩) ?_ ?_
         rotate_left
         ·intro w'
          go_simp
          with_reducible rfl
         rotate_left
         ·simp only [Act.put, sA_, sB_, sC_, i64_w]
          rfl
         refine pure_ (i := 22) (N := some 81) (v := ?_) (a' := ?_) L31_ rfl rfl (any_of HT_.out (by kernel_rfl)) (fun _ _ _ h => h) (Or.inl ⟨by rfl, ?_⟩) ?_ ?_
         rotate_left
         ·intro w'
          go_simp
          with_reducible rfl
         rotate_left
         ·simp only [Act.put, sA_, sB_, sC_, i64_w]
          rfl
         refine pure_ (i := 23) (N := some 82) (v := ?_) (a' := ?_) L32_ rfl rfl (any_of HT_.out (by kernel_rfl)) (fun _ _ _ h => h) (Or.inl ⟨by rfl, ?_⟩) ?_ ?_
         rotate_left
         ·intro w'
          go_simp
          with_reducible rfl
         rotate_left
         ·simp only [Act.put, sA_, sB_, sC_, i64_w]
          rfl
         refine pure_ (i := 24) (N := some 11) (v := ?_) (a' := ?_) L33_ rfl rfl (any_of HT_.out (by kernel_rfl)) (fun _ _ _ h => h) (Or.inl ⟨by rfl, ?_⟩) ?_ ?_
         rotate_left
         ·intro w'
          go_simp
          with_reducible rfl
         rotate_left
         ·simp only [Act.put, sA_, sB_, sC_, i64_w]
          rfl
         refine done_ (done_of HT_.out (by kernel_rfl)) ?_
         try go_wp2
         go_ret
         exact ⟨by first | rfl | (simp [errW_none, errW_some] <;> rfl) | (simp [*, errW_none, errW_some] <;> rfl), by repeat (first | (with_reducible first | exact HB.out | apply below_alloc | apply pw_below_drewN | apply below_drew1) | exact HB.out)⟩
        ·replace c38 := Bool.eq_false_iff.mpr c38
         subst c38
         have H1 : (none) = some r := by rw [if_neg (show ¬ (false = true) by decide)] at H; exact H
         clear H
         have H := H1
         clear H1
         exact absurd H (by simp)
       ·rw [if_neg c37] at H
        exact absurd H (by simp)
     ·rw [if_neg c35] at H
      have c35b0 : decide (a0 < 0) = false := decide_eq_false c35
      clear c35
      by_cases c46 : t256 = 0
      ·rw [if_pos c46] at H
       have c46b0 : (t256 == 0) = true := beq_iff_eq.mpr c46
       have c46b1 : (t256 != 0) = false := bne_eq_false_iff_eq.mpr c46
       clear c46
       obtain ⟨y269, hy269⟩ : ∃ y_ : List Int, y_ = (List.replicate 6 0) := ⟨_, rfl⟩
       replace H : (if (strOfNums y269).size + (strOfNums t255).size ≤ 9223372036854775807 then (if (strOfNums t259).toList = ((strOfNums y269) ++ (strOfNums t255)).toList then (if t250 = true then (if a0 > 255 then (some true) else (none)) else (none)) else (none)) else (none)) = some r := by first | (rw [hy269]; with_reducible exact H) | (have H2_ := (Option.bind_some _ _).symm.trans H; rw [hy269]; with_reducible exact H2_) | (have H2_ := (Option.bind_some _ _).symm.trans H; with_reducible exact H2_) | with_reducible exact H | (rw [hy269]; exact H) | exact H
       have Ny269 := Aside0.mk hy269
       clear hy269
       by_cases c47 : (strOfNums y269).size + (strOfNums t255).size ≤ 9223372036854775807
       ·rw [if_pos c47] at H
        have c47b0 := eq_true c47
        have c47b1 : decide ((strOfNums y269).size + (strOfNums t255).size ≤ 9223372036854775807) = true := decide_eq_true c47
        try have c47b2 : (9223372036854775807 < (strOfNums y269).size + (strOfNums t255).size) = False := eq_false (Nat.not_lt.2 c47)
        by_cases c48 : (strOfNums t259).toList = ((strOfNums y269) ++ (strOfNums t255)).toList
        ·rw [if_pos c48] at H
         have c48b0 : ((strOfNums t259).toList == ((strOfNums y269) ++ (strOfNums t255)).toList) = true := beq_iff_eq.mpr c48
         have c48b1 : ((strOfNums t259).toList != ((strOfNums y269) ++ (strOfNums t255)).toList) = false := bne_eq_false_iff_eq.mpr c48
         clear c48
         by_cases c49 : t250 = true
         ·subst c49
          have H1 : (if a0 > 255 then (some true) else (none)) = some r := by rw [if_pos rfl] at H; exact H
          clear H
          have H := H1
          clear H1
          by_cases c50 : a0 > 255
          ·rw [if_pos c50] at H
           have c50b0 : decide (255 < a0) = true := decide_eq_true c50
           clear c50
           obtain rfl := Option.some.inj H
           go_enter Try.func7, Try.ntmps7
           try go_wp2_with (first | ((with_reducible refine gate_callee (f := 8) rfl ?_); refine goesL_ (some 12) rfl rfl Try.func8 (by kernel_rfl) rfl #[] rfl (by (try simp only [List.map_toArray, List.map_cons, List.map_nil]); first | done | rfl) ?_; (with_reducible refine (fullerlaw08_awake.calls k  true _ A2.out).mono ?_); rintro e w51 ⟨rfl, hb⟩; refine ⟨_, rfl, ?_⟩; have n0_ := Aside0.mk (below_step (bq_ HB.out) hb); clear HB; have HB := n0_; clear n0_; (try clear hb)) | ((with_reducible refine gate_callee (f := 9) rfl ?_); refine goesL_ (some 15) rfl rfl Try.func9 (by kernel_rfl) rfl #[.slice none 0 0, .int .i64 a0, .int .i64 1] rfl (by (try simp only [List.map_toArray, List.map_cons, List.map_nil]); first | done | rfl) ?_; (refine (pack_Put.calls _ _ ([] : List Int) a0 1 t251 t252 _ ?side1 ?side2 A3.out).mono ?_); (case side1 => exact Kd.C_nil _ _); (case side2 => exact Nat.le_refl _); rintro e w52 ⟨v253, rfl, ho0, hb⟩; refine ⟨_, rfl, ?_⟩; have n0_ := Aside0.mk (Kd.R_lower ho0 (below_size (bq_ HB.out))); have n1_ := Aside0.mk (below_step (bq_ HB.out) hb); clear HB; have HO254 := n0_; have HB := n1_; clear n0_ n1_; (try clear hb); (try clear ho0)) | ((with_reducible refine gate_callee (f := 9) rfl ?_); refine goesL_ (some 20) rfl rfl Try.func9 (by kernel_rfl) rfl #[.slice none 0 0, .int .i64 a0, .int .i64 2] rfl (by (try simp only [List.map_toArray, List.map_cons, List.map_nil]); first | done | rfl) ?_; (refine (pack_Put.calls _ _ ([] : List Int) a0 2 t255 t256 _ ?side1 ?side2 A4.out).mono ?_); (case side1 => exact Kd.C_nil _ _); (case side2 => exact Nat.le_refl _); rintro e w53 ⟨v257, rfl, ho0, hb⟩; refine ⟨_, rfl, ?_⟩; have n0_ := Aside0.mk (Kd.R_elder' (mv2_ HO254.out) (Kd.R_base ho0) hb); have n1_ := Aside0.mk (Kd.R_lower (Kd.R_new' ho0 (Kd.R_lt (mv2_ HO254.out))) (below_size (bq_ HB.out))); have n2_ := Aside0.mk (below_step (bq_ HB.out) hb); clear HO254; clear HB; have HO254 := n0_; have HO258 := n1_; have HB := n2_; clear n0_ n1_ n2_; (try clear hb); (try clear ho0)) | ((with_reducible refine gate_callee (f := 9) rfl ?_); refine goesL_ (some 25) rfl rfl Try.func9 (by kernel_rfl) rfl #[.slice none 0 0, .int .i64 a0, .int .i64 8] rfl (by (try simp only [List.map_toArray, List.map_cons, List.map_nil]); first | done | rfl) ?_; (refine (pack_Put.calls _ _ ([] : List Int) a0 8 t259 t260 _ ?side1 ?side2 A5.out).mono ?_); (case side1 => exact Kd.C_nil _ _); (case side2 => exact Nat.le_refl _); rintro e w54 ⟨v261, rfl, ho0, hb⟩; refine ⟨_, rfl, ?_⟩; have n0_ := Aside0.mk (Kd.R_elder' (mv2_ HO254.out) (Kd.R_base ho0) hb); have n1_ := Aside0.mk (Kd.R_elder' (mv2_ HO258.out) (Kd.R_base ho0) hb); have n2_ := Aside0.mk (Kd.R_lower (Kd.R_new' (Kd.R_new' ho0 (Kd.R_lt (mv2_ HO254.out))) (Kd.R_lt (mv2_ HO258.out))) (below_size (bq_ HB.out))); have n3_ := Aside0.mk (below_step (bq_ HB.out) hb); clear HO254; clear HO258; clear HB; have HO254 := n0_; have HO258 := n1_; have HO262 := n2_; have HB := n3_; clear n0_ n1_ n2_ n3_; (try clear hb); (try clear ho0); obtain ⟨Ao55, co55, eo55⟩ := Kd.R_slice HO262.out; subst eo55))
           have n0_ := Aside0.mk (Kd.R_drew HO254.out)
           have n1_ := Aside0.mk (Kd.R_drew HO258.out)
           have n2_ := Aside0.mk (Kd.R_drew HO262.out)
           have n3_ := Aside0.mk (below_drew1 HB.out)
           clear HO254 HO258 HO262 HB
           have HO254 := n0_
           have HO258 := n1_
           have HO262 := n2_
           have HB := n3_
           clear n0_ n1_ n2_ n3_
           refine start_ (n := 25) (S := fun w' => True) (ds := []) L0_ (by kernel_rfl) rfl rfl trivial (fun hHeld => ?_); refine with_tabW fullerlaw08_PackWide.tab7 fullerlaw08_PackWide.bits7 (fun HT_ HW_ => ?_)
           generalize w54.drew = w56 at HO254 HO258 HO262 HB hHeld ⊢
           refine pure_ (i := 0) (N := some 35) (v := ?_) (a' := ?_) L1_ rfl rfl (any_of HT_.out (by kernel_rfl)) (fun _ _ _ h => h) (Or.inl ⟨by rfl, ?_⟩) ?_ ?_
           rotate_left
           ·intro w'
            go_simp
            with_reducible rfl
           rotate_left
           ·simp only [Act.put, sA_, sB_, sC_, i64_w]
            rfl
           refine pure_ (i := 1) (N := some 36) (v := ?_) (a' := ?_) L2_ rfl rfl (any_of HT_.out (by kernel_rfl)) (fun _ _ _ h => h) (Or.inl ⟨by rfl, ?_⟩) ?_ ?_
           rotate_left
           ·intro w'
            go_simp
            with_reducible rfl
           rotate_left
           ·simp only [Act.put, sA_, sB_, sC_, i64_w]
            rfl
           refine pure_ (i := 2) (N := some 37) (v := ?_) (a' := ?_) L3_ rfl rfl (any_of HT_.out (by kernel_rfl)) (fun _ _ _ h => h) (Or.inl ⟨by rfl, ?_⟩) ?_ ?_
           rotate_left
           ·intro w'
            go_simp
            with_reducible rfl
           rotate_left
           ·simp only [Act.put, sA_, sB_, sC_, i64_w]
            rfl
           refine pure_ (i := 3) (N := some 38) (v := undef) (a' := ?_) L4_ rfl rfl (any_of HT_.out (by kernel_rfl)) (fun _ _ _ h => h) (Or.inr ⟨by rfl, rfl⟩) ?_ ?_
           rotate_left
           ·simp only [Act.put, sA_, sB_, sC_, i64_w]
            rfl
           refine pure_ (i := 4) (N := some 39) (v := undef) (a' := ?_) L34_ rfl rfl (any_of HT_.out (by kernel_rfl)) (fun _ _ _ h => h) (Or.inr ⟨by rfl, rfl⟩) ?_ ?_
           rotate_left
           ·simp only [Act.put, sA_, sB_, sC_, i64_w]
            rfl
           refine pure_ (i := 5) (N := some 40) (v := undef) (a' := ?_) L35_ rfl rfl (any_of HT_.out (by kernel_rfl)) (fun _ _ _ h => h) (Or.inr ⟨by rfl, rfl⟩) ?_ ?_
           rotate_left
           ·simp only [Act.put, sA_, sB_, sC_, i64_w]
            rfl
           refine pure_ (i := 6) (N := some 41) (v := undef) (a' := ?_) L36_ rfl rfl (any_of HT_.out (by kernel_rfl)) (fun _ _ _ h => h) (Or.inr ⟨by rfl, rfl⟩) ?_ ?_
           rotate_left
           ·simp only [Act.put, sA_, sB_, sC_, i64_w]
            rfl
           refine pure_ (i := 7) (N := some 42) (v := undef) (a' := ?_) L7_ rfl rfl (any_of HT_.out (by kernel_rfl)) (fun _ _ _ h => h) (Or.inr ⟨by rfl, rfl⟩) ?_ ?_
           rotate_left
           ·simp only [Act.put, sA_, sB_, sC_, i64_w]
            rfl
           refine pure_ (i := 8) (N := some 43) (v := undef) (a' := ?_) L18_ rfl rfl (any_of HT_.out (by kernel_rfl)) (fun _ _ _ h => h) (Or.inr ⟨by rfl, rfl⟩) ?_ ?_
           rotate_left
           ·simp only [Act.put, sA_, sB_, sC_, i64_w]
            rfl
           refine pure_ (i := 9) (N := some 44) (v := undef) (a' := ?_) L6_ rfl rfl (any_of HT_.out (by kernel_rfl)) (fun _ _ _ h => h) (Or.inr ⟨by rfl, rfl⟩) ?_ ?_
           rotate_left
           ·simp only [Act.put, sA_, sB_, sC_, i64_w]
            rfl
           refine pure_ (i := 10) (N := some 45) (v := undef) (a' := ?_) L19_ rfl rfl (any_of HT_.out (by kernel_rfl)) (fun _ _ _ h => h) (Or.inr ⟨by rfl, rfl⟩) ?_ ?_
           rotate_left
           ·simp only [Act.put, sA_, sB_, sC_, i64_w]
            rfl
           refine pure_ (i := 11) (N := some 46) (v := ?_) (a' := ?_) L20_ rfl rfl (any_of HT_.out (by kernel_rfl)) (fun _ _ _ h => h) (Or.inl ⟨by rfl, ?_⟩) ?_ ?_
           rotate_left
           ·intro w'
            go_simp
            with_reducible rfl
           rotate_left
           ·simp only [Act.put, sA_, sB_, sC_, i64_w]
            rfl
           refine pure_ (i := 12) (N := some 47) (v := ?_) (a' := ?_) L21_ rfl rfl (any_of HT_.out (by kernel_rfl)) (fun _ _ _ h => h) (Or.inl ⟨by rfl, ?_⟩) ?_ ?_
           rotate_left
           ·intro w'
            go_simp
            with_reducible rfl
           rotate_left
           ·simp only [Act.put, sA_, sB_, sC_, i64_w]
            rfl
           refine pure_ (i := 13) (N := some 48) (v := ?_) (a' := ?_) L22_ rfl rfl (any_of HT_.out (by kernel_rfl)) (fun _ _ _ h => h) (Or.inl ⟨by rfl, ?_⟩) ?_ ?_
           rotate_left
           ·intro w'
            go_simp
            with_reducible rfl
           rotate_left
           ·simp only [Act.put, sA_, sB_, sC_, i64_w]
            rfl
           refine pure_ (i := 14) (N := some 49) (v := ?_) (a' := ?_) L23_ rfl rfl (any_of HT_.out (by kernel_rfl)) (fun _ _ _ h => h) (Or.inl ⟨by rfl, ?_⟩) ?_ ?_
           rotate_left
           ·intro w'
            go_simp
            with_reducible rfl
           rotate_left
           ·simp only [Act.put, sA_, sB_, sC_, i64_w]
            rfl
           refine pure_ (i := 15) (N := some 50) (v := ?_) (a' := ?_) L24_ rfl rfl (any_of HT_.out (by kernel_rfl)) (fun _ _ _ h => h) (Or.inl ⟨by rfl, ?_⟩) ?_ ?_
           rotate_left
           ·intro w'
            go_simp
            with_reducible rfl
           rotate_left
           ·simp only [Act.put, sA_, sB_, sC_, i64_w]
            rfl
           refine pure_ (i := 16) (N := some 51) (v := ?_) (a' := ?_) L25_ rfl rfl (any_of HT_.out (by kernel_rfl)) (fun _ _ _ h => h) (Or.inl ⟨by rfl, ?_⟩) ?_ ?_
           rotate_left
           ·intro w'
            go_simp
            with_reducible rfl
           rotate_left
           ·simp only [Act.put, sA_, sB_, sC_, i64_w]
            rfl
           refine pure_ (i := 17) (N := some 52) (v := ?_) (a' := ?_) L26_ rfl rfl (any_of HT_.out (by kernel_rfl)) (fun _ _ _ h => h) (Or.inl ⟨by rfl, ?_⟩) ?_ ?_
           rotate_left
           ·intro w'
            go_simp
            with_reducible rfl
           rotate_left
           ·simp only [Act.put, sA_, sB_, sC_, i64_w]
            rfl
           refine pure_ (i := 18) (N := some 53) (v := ?_) (a' := ?_) L27_ rfl rfl (any_of HT_.out (by kernel_rfl)) (fun _ _ _ h => h) (Or.inl ⟨by rfl, ?_⟩) ?_ ?_
           rotate_left
           ·intro w'
            go_simp
            with_reducible rfl
           rotate_left
           ·simp only [Act.put, sA_, sB_, sC_, i64_w]
            rfl
           refine pure_ (i := 19) (N := some 54) (v := ?_) (a' := ?_) L28_ rfl rfl (any_of HT_.out (by kernel_rfl)) (fun _ _ _ h => h) (Or.inl ⟨by rfl, ?_⟩) ?_ ?_
           rotate_left
           ·intro w'
            go_simp
            with_reducible rfl
           rotate_left
           ·simp only [Act.put, sA_, sB_, sC_, i64_w]
            rfl
           refine pure_ (i := 20) (N := some 55) (v := ?_) (a' := ?_) L29_ rfl rfl (any_of HT_.out (by kernel_rfl)) (fun _ _ _ h => h) (Or.inl ⟨by rfl, ?_⟩) ?_ ?_
           rotate_left
           ·intro w'
            go_simp
            with_reducible rfl
           rotate_left
           ·simp only [Act.put, sA_, sB_, sC_, i64_w]
            rfl
           refine pure_ (i := 21) (N := some 56) (v := ?_) (a' := ?_) L30_ rfl rfl (any_of HT_.out (by kernel_rfl)) (fun _ _ _ h => h) (Or.inl ⟨by rfl, ?_⟩) ?_ ?_
           rotate_left
           ·intro w'
            go_simp
            with_reducible rfl
           rotate_left
           ·simp only [Act.put, sA_, sB_, sC_, i64_w]
            rfl
           refine pure_ (i := 22) (N := some 57) (v := ?_) (a' := ?_) L31_ rfl rfl (any_of HT_.out (by kernel_rfl)) (fun _ _ _ h => h) (Or.inl ⟨by rfl, ?_⟩) ?_ ?_
           rotate_left
           ·intro w'
            go_simp
            with_reducible rfl
           rotate_left
           ·simp only [Act.put, sA_, sB_, sC_, i64_w]
            rfl
           refine pure_ (i := 23) (N := some 58) (v := ?_) (a' := ?_) L32_ rfl rfl (any_of HT_.out (by kernel_rfl)) (fun _ _ _ h => h) (Or.inl ⟨by rfl, ?_⟩) ?_ ?_
           rotate_left
           ·intro w'
            go_simp
            with_reducible rfl
           rotate_left
           ·simp only [Act.put, sA_, sB_, sC_, i64_w]
            rfl
           refine pure_ (i := 24) (N := some 10) (v := ?_) (a' := ?_) L33_ rfl rfl (any_of HT_.out (by kernel_rfl)) (fun _ _ _ h => h) (Or.inl ⟨by rfl, ?_⟩) ?_ ?_
           rotate_left
           ·intro w'
            go_simp
            with_reducible rfl
           rotate_left
           ·simp only [Act.put, sA_, sB_, sC_, i64_w]
            rfl
           refine done_ (done_of HT_.out (by kernel_rfl)) ?_
           try go_wp2
           have n0_ := Aside0.mk (Kd.R_drew HO254.out)
           have n1_ := Aside0.mk (Kd.R_drew HO258.out)
           have n2_ := Aside0.mk (Kd.R_drew HO262.out)
           have n3_ := Aside0.mk (below_drew1 HB.out)
           clear HO254 HO258 HO262 HB
           have HO254 := n0_
           have HO258 := n1_
           have HO262 := n2_
           have HB := n3_
           clear n0_ n1_ n2_ n3_
           refine start_ (n := 25) (S := fun w' => True) (ds := []) L0_ (by kernel_rfl) rfl rfl trivial (fun hHeld => ?_); refine with_tabW fullerlaw08_PackWide.tab8 fullerlaw08_PackWide.bits8 (fun HT_ HW_ => ?_)
           generalize w56.drew = w57 at HO254 HO258 HO262 HB hHeld ⊢
           refine pure_ (i := 0) (N := some 59) (v := ?_) (a' := ?_) L1_ rfl rfl (any_of HT_.out (by kernel_rfl)) (fun _ _ _ h => h) (Or.inl ⟨by rfl, ?_⟩) ?_ ?_
           rotate_left
           ·intro w'
            go_simp
            with_reducible rfl
           rotate_left
           ·simp only [Act.put, sA_, sB_, sC_, i64_w]
            rfl
           refine pure_ (i := 1) (N := some 60) (v := ?_) (a' := ?_) L2_ rfl rfl (any_of HT_.out (by kernel_rfl)) (fun _ _ _ h => h) (Or.inl ⟨by rfl, ?_⟩) ?_ ?_
           rotate_left
           ·intro w'
            go_simp
            with_reducible rfl
           rotate_left
           ·simp only [Act.put, sA_, sB_, sC_, i64_w]
            rfl
           refine pure_ (i := 2) (N := some 61) (v := ?_) (a' := ?_) L3_ rfl rfl (any_of HT_.out (by kernel_rfl)) (fun _ _ _ h => h) (Or.inl ⟨by rfl, ?_⟩) ?_ ?_
           rotate_left
           ·intro w'
            go_simp
            with_reducible rfl
           rotate_left
           ·simp only [Act.put, sA_, sB_, sC_, i64_w]
            rfl
           refine pure_ (i := 3) (N := some 62) (v := ?_) (a' := ?_) L4_ rfl rfl (any_of HT_.out (by kernel_rfl)) (fun _ _ _ h => h) (Or.inl ⟨by rfl, ?_⟩) ?_ ?_
           rotate_left
           ·intro w'
            go_simp
            with_reducible rfl
           rotate_left
           ·simp only [Act.put, sA_, sB_, sC_, i64_w]
            rfl
           refine pure_ (i := 7) (N := some 66) (v := ?_) (a' := ?_) L5_ rfl rfl (any_of HT_.out (by kernel_rfl)) (fun _ _ _ h => h) (Or.inl ⟨by rfl, ?_⟩) ?_ ?_
           rotate_left
           ·intro w'
            go_simp
            with_reducible rfl
           rotate_left
           ·simp only [Act.put, sA_, sB_, sC_, i64_w]
            rfl
           refine join_ (σ := Value) 15 L6_ (fun s_ => [(63, .string (strOfNums t259)), (64, s_), (65, .string (strOfNums y269)), (67, .string (strOfNums t255)), (68, .string ((strOfNums y269) ++ (strOfNums t255)))]) (fun s_ w' => (Kd.R (Kd.int .u8) 5 w' w.heap.size (fun k_ => some k_ ≠ (v257 : Value).ownBlock ∧ some k_ ≠ (.slice Ao55 t259.length co55 : Value).ownBlock ∧ some k_ ≠ (s_ : Value).ownBlock) v253 t251) ∧ (Kd.R (Kd.int .u8) 5 w' w.heap.size (fun k_ => some k_ ≠ (v253 : Value).ownBlock ∧ some k_ ≠ (.slice Ao55 t259.length co55 : Value).ownBlock ∧ some k_ ≠ (s_ : Value).ownBlock) v257 t255) ∧ (Kd.R (Kd.int .u8) 5 w' w.heap.size (fun k_ => some k_ ≠ (v253 : Value).ownBlock ∧ some k_ ≠ (v257 : Value).ownBlock ∧ some k_ ≠ (s_ : Value).ownBlock) (.slice Ao55 t259.length co55) t259) ∧ (Kd.R (Kd.int .u8) 5 w' w.heap.size (fun k_ => some k_ ≠ (v253 : Value).ownBlock ∧ some k_ ≠ (v257 : Value).ownBlock ∧ some k_ ≠ (.slice Ao55 t259.length co55 : Value).ownBlock) s_ y269) ∧ (Below w.heap.size w w')) ?_ ?_
           rotate_left
           ·intro hJ4_5_6_8
            refine join_ (σ := Value) 17 L7_ (fun s_ => [(63, .string (strOfNums t259)), (64, s_), (65, .string (strOfNums y269))]) (fun s_ w' => (Kd.R (Kd.int .u8) 5 w' w.heap.size (fun k_ => some k_ ≠ (v257 : Value).ownBlock ∧ some k_ ≠ (.slice Ao55 t259.length co55 : Value).ownBlock ∧ some k_ ≠ (s_ : Value).ownBlock) v253 t251) ∧ (Kd.R (Kd.int .u8) 5 w' w.heap.size (fun k_ => some k_ ≠ (v253 : Value).ownBlock ∧ some k_ ≠ (.slice Ao55 t259.length co55 : Value).ownBlock ∧ some k_ ≠ (s_ : Value).ownBlock) v257 t255) ∧ (Kd.R (Kd.int .u8) 5 w' w.heap.size (fun k_ => some k_ ≠ (v253 : Value).ownBlock ∧ some k_ ≠ (v257 : Value).ownBlock ∧ some k_ ≠ (s_ : Value).ownBlock) (.slice Ao55 t259.length co55) t259) ∧ (Kd.R (Kd.int .u8) 5 w' w.heap.size (fun k_ => some k_ ≠ (v253 : Value).ownBlock ∧ some k_ ≠ (v257 : Value).ownBlock ∧ some k_ ≠ (.slice Ao55 t259.length co55 : Value).ownBlock) s_ y269) ∧ (Below w.heap.size w w')) ?_ ?_
            rotate_left
            ·intro hJ4_5_6
             refine join_ (σ := Value) 17 L8_ (fun s_ => [(63, .string (strOfNums t259)), (64, s_), (67, .string (strOfNums t255))]) (fun s_ w' => (Kd.R (Kd.int .u8) 5 w' w.heap.size (fun k_ => some k_ ≠ (v257 : Value).ownBlock ∧ some k_ ≠ (.slice Ao55 t259.length co55 : Value).ownBlock ∧ some k_ ≠ (s_ : Value).ownBlock) v253 t251) ∧ (Kd.R (Kd.int .u8) 5 w' w.heap.size (fun k_ => some k_ ≠ (v253 : Value).ownBlock ∧ some k_ ≠ (.slice Ao55 t259.length co55 : Value).ownBlock ∧ some k_ ≠ (s_ : Value).ownBlock) v257 t255) ∧ (Kd.R (Kd.int .u8) 5 w' w.heap.size (fun k_ => some k_ ≠ (v253 : Value).ownBlock ∧ some k_ ≠ (v257 : Value).ownBlock ∧ some k_ ≠ (s_ : Value).ownBlock) (.slice Ao55 t259.length co55) t259) ∧ (Kd.R (Kd.int .u8) 5 w' w.heap.size (fun k_ => some k_ ≠ (v253 : Value).ownBlock ∧ some k_ ≠ (v257 : Value).ownBlock ∧ some k_ ≠ (.slice Ao55 t259.length co55 : Value).ownBlock) s_ y269) ∧ (Below w.heap.size w w')) ?_ ?_
             rotate_left
             ·intro hJ4_5_8
              refine join_ (σ := Value) 16 L9_ (fun s_ => [(64, s_), (65, .string (strOfNums y269)), (67, .string (strOfNums t255)), (68, .string ((strOfNums y269) ++ (strOfNums t255)))]) (fun s_ w' => (Kd.R (Kd.int .u8) 5 w' w.heap.size (fun k_ => some k_ ≠ (v257 : Value).ownBlock ∧ some k_ ≠ (.slice Ao55 t259.length co55 : Value).ownBlock ∧ some k_ ≠ (s_ : Value).ownBlock) v253 t251) ∧ (Kd.R (Kd.int .u8) 5 w' w.heap.size (fun k_ => some k_ ≠ (v253 : Value).ownBlock ∧ some k_ ≠ (.slice Ao55 t259.length co55 : Value).ownBlock ∧ some k_ ≠ (s_ : Value).ownBlock) v257 t255) ∧ (Kd.R (Kd.int .u8) 5 w' w.heap.size (fun k_ => some k_ ≠ (v253 : Value).ownBlock ∧ some k_ ≠ (v257 : Value).ownBlock ∧ some k_ ≠ (s_ : Value).ownBlock) (.slice Ao55 t259.length co55) t259) ∧ (Kd.R (Kd.int .u8) 5 w' w.heap.size (fun k_ => some k_ ≠ (v253 : Value).ownBlock ∧ some k_ ≠ (v257 : Value).ownBlock ∧ some k_ ≠ (.slice Ao55 t259.length co55 : Value).ownBlock) s_ y269) ∧ (Below w.heap.size w w')) ?_ ?_
              rotate_left
              ·intro hJ5_6_8
               refine join_ (σ := Value) 18 L10_ (fun s_ => [(63, .string (strOfNums t259)), (64, s_)]) (fun s_ w' => (Kd.R (Kd.int .u8) 5 w' w.heap.size (fun k_ => some k_ ≠ (v257 : Value).ownBlock ∧ some k_ ≠ (.slice Ao55 t259.length co55 : Value).ownBlock ∧ some k_ ≠ (s_ : Value).ownBlock) v253 t251) ∧ (Kd.R (Kd.int .u8) 5 w' w.heap.size (fun k_ => some k_ ≠ (v253 : Value).ownBlock ∧ some k_ ≠ (.slice Ao55 t259.length co55 : Value).ownBlock ∧ some k_ ≠ (s_ : Value).ownBlock) v257 t255) ∧ (Kd.R (Kd.int .u8) 5 w' w.heap.size (fun k_ => some k_ ≠ (v253 : Value).ownBlock ∧ some k_ ≠ (v257 : Value).ownBlock ∧ some k_ ≠ (s_ : Value).ownBlock) (.slice Ao55 t259.length co55) t259) ∧ (Kd.R (Kd.int .u8) 5 w' w.heap.size (fun k_ => some k_ ≠ (v253 : Value).ownBlock ∧ some k_ ≠ (v257 : Value).ownBlock ∧ some k_ ≠ (.slice Ao55 t259.length co55 : Value).ownBlock) s_ y269) ∧ (Below w.heap.size w w')) ?_ ?_
               rotate_left
               ·intro hJ4_5
                refine join_ (σ := Unit) 18 L11_ (fun s_ => [(63, .string (strOfNums t259)), (67, .string (strOfNums t255))]) (fun s_ w' => (Kd.R (Kd.int .u8) 5 w' w.heap.size (fun k_ => some k_ ≠ (v257 : Value).ownBlock ∧ some k_ ≠ (.slice Ao55 t259.length co55 : Value).ownBlock) v253 t251) ∧ (Kd.R (Kd.int .u8) 5 w' w.heap.size (fun k_ => some k_ ≠ (v253 : Value).ownBlock ∧ some k_ ≠ (.slice Ao55 t259.length co55 : Value).ownBlock) v257 t255) ∧ (Kd.R (Kd.int .u8) 5 w' w.heap.size (fun k_ => some k_ ≠ (v253 : Value).ownBlock ∧ some k_ ≠ (v257 : Value).ownBlock) (.slice Ao55 t259.length co55) t259) ∧ (Below w.heap.size w w')) ?_ ?_
                rotate_left
                ·intro hJ4_8
                 refine join_ (σ := Value) 18 L12_ (fun s_ => [(64, s_), (65, .string (strOfNums y269))]) (fun s_ w' => (Kd.R (Kd.int .u8) 5 w' w.heap.size (fun k_ => some k_ ≠ (v257 : Value).ownBlock ∧ some k_ ≠ (.slice Ao55 t259.length co55 : Value).ownBlock ∧ some k_ ≠ (s_ : Value).ownBlock) v253 t251) ∧ (Kd.R (Kd.int .u8) 5 w' w.heap.size (fun k_ => some k_ ≠ (v253 : Value).ownBlock ∧ some k_ ≠ (.slice Ao55 t259.length co55 : Value).ownBlock ∧ some k_ ≠ (s_ : Value).ownBlock) v257 t255) ∧ (Kd.R (Kd.int .u8) 5 w' w.heap.size (fun k_ => some k_ ≠ (v253 : Value).ownBlock ∧ some k_ ≠ (v257 : Value).ownBlock ∧ some k_ ≠ (s_ : Value).ownBlock) (.slice Ao55 t259.length co55) t259) ∧ (Kd.R (Kd.int .u8) 5 w' w.heap.size (fun k_ => some k_ ≠ (v253 : Value).ownBlock ∧ some k_ ≠ (v257 : Value).ownBlock ∧ some k_ ≠ (.slice Ao55 t259.length co55 : Value).ownBlock) s_ y269) ∧ (Below w.heap.size w w')) ?_ ?_
                 rotate_left
                 ·intro hJ5_6
                  refine join_ (σ := Value) 18 L13_ (fun s_ => [(64, s_), (67, .string (strOfNums t255))]) (fun s_ w' => (Kd.R (Kd.int .u8) 5 w' w.heap.size (fun k_ => some k_ ≠ (v257 : Value).ownBlock ∧ some k_ ≠ (.slice Ao55 t259.length co55 : Value).ownBlock ∧ some k_ ≠ (s_ : Value).ownBlock) v253 t251) ∧ (Kd.R (Kd.int .u8) 5 w' w.heap.size (fun k_ => some k_ ≠ (v253 : Value).ownBlock ∧ some k_ ≠ (.slice Ao55 t259.length co55 : Value).ownBlock ∧ some k_ ≠ (s_ : Value).ownBlock) v257 t255) ∧ (Kd.R (Kd.int .u8) 5 w' w.heap.size (fun k_ => some k_ ≠ (v253 : Value).ownBlock ∧ some k_ ≠ (v257 : Value).ownBlock ∧ some k_ ≠ (s_ : Value).ownBlock) (.slice Ao55 t259.length co55) t259) ∧ (Kd.R (Kd.int .u8) 5 w' w.heap.size (fun k_ => some k_ ≠ (v253 : Value).ownBlock ∧ some k_ ≠ (v257 : Value).ownBlock ∧ some k_ ≠ (.slice Ao55 t259.length co55 : Value).ownBlock) s_ y269) ∧ (Below w.heap.size w w')) ?_ ?_
                  rotate_left
                  ·intro hJ5_8
                   refine join_ (σ := Unit) 19 L14_ (fun s_ => [(63, .string (strOfNums t259))]) (fun s_ w' => (Kd.R (Kd.int .u8) 5 w' w.heap.size (fun k_ => some k_ ≠ (v257 : Value).ownBlock ∧ some k_ ≠ (.slice Ao55 t259.length co55 : Value).ownBlock) v253 t251) ∧ (Kd.R (Kd.int .u8) 5 w' w.heap.size (fun k_ => some k_ ≠ (v253 : Value).ownBlock ∧ some k_ ≠ (.slice Ao55 t259.length co55 : Value).ownBlock) v257 t255) ∧ (Kd.R (Kd.int .u8) 5 w' w.heap.size (fun k_ => some k_ ≠ (v253 : Value).ownBlock ∧ some k_ ≠ (v257 : Value).ownBlock) (.slice Ao55 t259.length co55) t259) ∧ (Below w.heap.size w w')) ?_ ?_
                   rotate_left
                   ·intro hJ4
                    refine join_ (σ := Value) 19 L15_ (fun s_ => [(64, s_)]) (fun s_ w' => (Kd.R (Kd.int .u8) 5 w' w.heap.size (fun k_ => some k_ ≠ (v257 : Value).ownBlock ∧ some k_ ≠ (.slice Ao55 t259.length co55 : Value).ownBlock ∧ some k_ ≠ (s_ : Value).ownBlock) v253 t251) ∧ (Kd.R (Kd.int .u8) 5 w' w.heap.size (fun k_ => some k_ ≠ (v253 : Value).ownBlock ∧ some k_ ≠ (.slice Ao55 t259.length co55 : Value).ownBlock ∧ some k_ ≠ (s_ : Value).ownBlock) v257 t255) ∧ (Kd.R (Kd.int .u8) 5 w' w.heap.size (fun k_ => some k_ ≠ (v253 : Value).ownBlock ∧ some k_ ≠ (v257 : Value).ownBlock ∧ some k_ ≠ (s_ : Value).ownBlock) (.slice Ao55 t259.length co55) t259) ∧ (Kd.R (Kd.int .u8) 5 w' w.heap.size (fun k_ => some k_ ≠ (v253 : Value).ownBlock ∧ some k_ ≠ (v257 : Value).ownBlock ∧ some k_ ≠ (.slice Ao55 t259.length co55 : Value).ownBlock) s_ y269) ∧ (Below w.heap.size w w')) ?_ ?_
                    rotate_left
                    ·intro hJ5
                     refine join_ (σ := Unit) 19 L16_ (fun s_ => [(67, .string (strOfNums t255))]) (fun s_ w' => (Kd.R (Kd.int .u8) 5 w' w.heap.size (fun k_ => some k_ ≠ (v257 : Value).ownBlock ∧ some k_ ≠ (.slice Ao55 t259.length co55 : Value).ownBlock) v253 t251) ∧ (Kd.R (Kd.int .u8) 5 w' w.heap.size (fun k_ => some k_ ≠ (v253 : Value).ownBlock ∧ some k_ ≠ (.slice Ao55 t259.length co55 : Value).ownBlock) v257 t255) ∧ (Kd.R (Kd.int .u8) 5 w' w.heap.size (fun k_ => some k_ ≠ (v253 : Value).ownBlock ∧ some k_ ≠ (v257 : Value).ownBlock) (.slice Ao55 t259.length co55) t259) ∧ (Below w.heap.size w w')) ?_ ?_
                     rotate_left
                     ·intro hJ8
                      refine three_ (i := 4) (j := 5) (k := 8) (Ni := some 63) (Nj := some 64) (Nk := some 67) L14_ L15_ L16_ rfl rfl rfl rfl rfl rfl (three_of HT_.out (by kernel_rfl)) (by decide) (by decide) (by decide) (fun K hK => ?_) (fun K hK => ?_) (fun K hK => ?_)
                      ·skip
                       have hcv58 := own_string (P := Try.prog) Try.underlying23 Try.underlying5 Try.underlying9 (Kd.own_of_R HO262.out)
                       refine value_ (w1 := ?_) (v := ?_) (by rfl) rfl ?_ ?_
                       rotate_left 2
                       ·go_simp
                        constructor
                        ·rfl
                        ·rfl
                       clear hcv58
                       refine hK.out _ _ trivial (fun hHeld => ?_)
                       clear hK K
                       refine norm_ (a' := ?_) ?_ ?_
                       rotate_left
                       ·show Act.put _ (some 63) _ = _
                        simp only [Act.put, sA_, sB_, sC_, i64_w]
                        rfl
                       exact norm_ (by simp only [putAll, Act.put, sA_, sB_, sC_] <;> rfl) (hJ4 () _ ⟨(by (with_reducible repeat (first | apply Kd.R_alloc | apply Kd.R_drewN | apply Kd.R_drew)); exact Kd.R_mono HO254.out (fun _ hk => ⟨hk.1.2, hk.2⟩)), (by (with_reducible repeat (first | apply Kd.R_alloc | apply Kd.R_drewN | apply Kd.R_drew)); exact Kd.R_mono HO258.out (fun _ hk => ⟨hk.1.2, hk.2⟩)), (by (with_reducible repeat (first | apply Kd.R_alloc | apply Kd.R_drewN | apply Kd.R_drew)); exact Kd.R_mono HO262.out (fun _ hk => ⟨hk.1.2, hk.2⟩)), (bq_ HB.out)⟩)
                      ·skip
                       refine Kd.R_make_step (Kd.int .u8) _ 5 (by rfl) (N := 64) rfl 23 _ _ rfl 6 rfl rfl Try.underlying23 (.int .u8 0) 1 info5 rfl (by decide) (by omega) 0 (ok := fun _ => True) (okp := fun _ => True) rfl (fun _ hk => hk) trivial (by omega) (by omega) (Below.refl _ _) (Nat.le_refl _) ?_
                       intro v270 w58 ho59 hb hg_ hnew_
                       clear hg_ hnew_
                       (first | rw [← Ny269.out] at ho59 | (simp only [Int.reduceToNat] at ho59; rw [← Ny269.out] at ho59))
                       have n0_ := Aside0.mk (Kd.R_elder' (mv2_ HO254.out) (Kd.R_base ho59) hb)
                       have n1_ := Aside0.mk (Kd.R_elder' (mv2_ HO258.out) (Kd.R_base ho59) hb)
                       have n2_ := Aside0.mk (Kd.R_elder' (mv2_ HO262.out) (Kd.R_base ho59) hb)
                       have n3_ := Aside0.mk (Kd.R_lower (Kd.R_new' (Kd.R_new' (Kd.R_new' ho59 (Kd.R_lt (mv2_ HO254.out))) (Kd.R_lt (mv2_ HO258.out))) (Kd.R_lt (mv2_ HO262.out))) (below_size (bq_ HB.out)))
                       have n4_ := Aside0.mk (below_step (bq_ HB.out) hb)
                       clear HO254 HO258 HO262 HB
                       have HO254 := n0_
                       have HO258 := n1_
                       have HO262 := n2_
                       have HO271 := n3_
                       have HB := n4_
                       clear n0_ n1_ n2_ n3_ n4_ hb ho59
                       refine hK.out _ _ trivial (fun hHeld => ?_)
                       clear hK K
                       refine norm_ (a' := ?_) ?_ ?_
                       rotate_left
                       ·show Act.put _ (some 64) _ = _
                        simp only [Act.put, sA_, sB_, sC_, i64_w]
                        rfl
                       exact norm_ (by simp only [putAll, Act.put, sA_, sB_, sC_] <;> rfl) (hJ5 (v270) _ ⟨(by (with_reducible repeat (first | apply Kd.R_alloc | apply Kd.R_drewN | apply Kd.R_drew)); exact Kd.R_mono HO254.out (fun _ hk => ⟨hk.1.1.2, ⟨hk.1.2, hk.2⟩⟩)), (by (with_reducible repeat (first | apply Kd.R_alloc | apply Kd.R_drewN | apply Kd.R_drew)); exact Kd.R_mono HO258.out (fun _ hk => ⟨hk.1.1.2, ⟨hk.1.2, hk.2⟩⟩)), (by (with_reducible repeat (first | apply Kd.R_alloc | apply Kd.R_drewN | apply Kd.R_drew)); exact Kd.R_mono HO262.out (fun _ hk => ⟨hk.1.1.2, ⟨hk.1.2, hk.2⟩⟩)), (by (with_reducible repeat (first | apply Kd.R_alloc | apply Kd.R_drewN | apply Kd.R_drew)); exact Kd.R_mono HO271.out (fun _ hk => ⟨hk.1.1.2, ⟨hk.1.2, hk.2⟩⟩)), (bq_ HB.out)⟩)
                      ·skip
                       have hcv58 := own_string (P := Try.prog) Try.underlying23 Try.underlying5 Try.underlying9 (Kd.own_of_R HO258.out)
                       refine value_ (w1 := ?_) (v := ?_) (by rfl) rfl ?_ ?_
                       rotate_left 2
                       ·go_simp
                        constructor
                        ·rfl
                        ·rfl
                       clear hcv58
                       refine hK.out _ _ trivial (fun hHeld => ?_)
                       clear hK K
                       refine norm_ (a' := ?_) ?_ ?_
                       rotate_left
                       ·show Act.put _ (some 67) _ = _
                        simp only [Act.put, sA_, sB_, sC_, i64_w]
                        rfl
                       exact norm_ (by simp only [putAll, Act.put, sA_, sB_, sC_] <;> rfl) (hJ8 () _ ⟨(by (with_reducible repeat (first | apply Kd.R_alloc | apply Kd.R_drewN | apply Kd.R_drew)); exact Kd.R_mono HO254.out (fun _ hk => ⟨hk.1.2, hk.2⟩)), (by (with_reducible repeat (first | apply Kd.R_alloc | apply Kd.R_drewN | apply Kd.R_drew)); exact Kd.R_mono HO258.out (fun _ hk => ⟨hk.1.2, hk.2⟩)), (by (with_reducible repeat (first | apply Kd.R_alloc | apply Kd.R_drewN | apply Kd.R_drew)); exact Kd.R_mono HO262.out (fun _ hk => ⟨hk.1.2, hk.2⟩)), (bq_ HB.out)⟩)
                     ·skip
                      rintro _ w59 ⟨h0_, h1_, h2_, h3_⟩
                      have n0_ : Aside0 (Kd.R (Kd.int .u8) 5 w59 w.heap.size (fun k_ => some k_ ≠ (v257 : Value).ownBlock ∧ some k_ ≠ (.slice Ao55 t259.length co55 : Value).ownBlock) v253 t251) := ⟨h0_⟩
                      have n1_ : Aside0 (Kd.R (Kd.int .u8) 5 w59 w.heap.size (fun k_ => some k_ ≠ (v253 : Value).ownBlock ∧ some k_ ≠ (.slice Ao55 t259.length co55 : Value).ownBlock) v257 t255) := ⟨h1_⟩
                      have n2_ : Aside0 (Kd.R (Kd.int .u8) 5 w59 w.heap.size (fun k_ => some k_ ≠ (v253 : Value).ownBlock ∧ some k_ ≠ (v257 : Value).ownBlock) (.slice Ao55 t259.length co55) t259) := ⟨h2_⟩
                      have n3_ : Aside0 (Below w.heap.size w w59) := ⟨h3_⟩
                      clear HO254 HO258 HO262 HB h0_ h1_ h2_ h3_
                      have HO254 := n0_
                      have HO258 := n1_
                      have HO262 := n2_
                      have HB := n3_
                      clear n0_ n1_ n2_ n3_
                      have hHeld := trivial
                      refine norm_ (a' := ?_) ?_ ?_
                      rotate_left
                      ·simp only [putAll, Act.put, sA_, sB_, sC_]
                       rfl
                      refine two_ (i := 4) (j := 5) (Ni := some 63) (Nj := some 64) L11_ L13_ rfl rfl rfl rfl (two_of HT_.out (by kernel_rfl)) (by decide) (by decide) (fun K hK => ?_) (fun K hK => ?_)
                      ·skip
                       have hcv60 := own_string (P := Try.prog) Try.underlying23 Try.underlying5 Try.underlying9 (Kd.own_of_R HO262.out)
                       refine value_ (w1 := ?_) (v := ?_) (by rfl) rfl ?_ ?_
                       rotate_left 2
                       ·go_simp
                        constructor
                        ·rfl
                        ·rfl
                       clear hcv60
                       refine hK.out _ _ trivial (fun hHeld => ?_)
                       clear hK K
                       refine norm_ (a' := ?_) ?_ ?_
                       rotate_left
                       ·show Act.put _ (some 63) _ = _
                        simp only [Act.put, sA_, sB_, sC_, i64_w]
                        rfl
                       exact norm_ (by simp only [putAll, Act.put, sA_, sB_, sC_] <;> rfl) (hJ4_8 () _ ⟨(mv2_ HO254.out), (mv2_ HO258.out), (mv2_ HO262.out), (bq_ HB.out)⟩)
                      ·skip
                       refine Kd.R_make_step (Kd.int .u8) _ 5 (by rfl) (N := 64) rfl 23 _ _ rfl 6 rfl rfl Try.underlying23 (.int .u8 0) 1 info5 rfl (by decide) (by omega) 0 (ok := fun _ => True) (okp := fun _ => True) rfl (fun _ hk => hk) trivial (by omega) (by omega) (Below.refl _ _) (Nat.le_refl _) ?_
                       intro v270 w60 ho61 hb hg_ hnew_
                       clear hg_ hnew_
                       (first | rw [← Ny269.out] at ho61 | (simp only [Int.reduceToNat] at ho61; rw [← Ny269.out] at ho61))
                       have n0_ := Aside0.mk (Kd.R_elder' (mv2_ HO254.out) (Kd.R_base ho61) hb)
                       have n1_ := Aside0.mk (Kd.R_elder' (mv2_ HO258.out) (Kd.R_base ho61) hb)
                       have n2_ := Aside0.mk (Kd.R_elder' (mv2_ HO262.out) (Kd.R_base ho61) hb)
                       have n3_ := Aside0.mk (Kd.R_lower (Kd.R_new' (Kd.R_new' (Kd.R_new' ho61 (Kd.R_lt (mv2_ HO254.out))) (Kd.R_lt (mv2_ HO258.out))) (Kd.R_lt (mv2_ HO262.out))) (below_size (bq_ HB.out)))
                       have n4_ := Aside0.mk (below_step (bq_ HB.out) hb)
                       clear HO254 HO258 HO262 HB
                       have HO254 := n0_
                       have HO258 := n1_
                       have HO262 := n2_
                       have HO271 := n3_
                       have HB := n4_
                       clear n0_ n1_ n2_ n3_ n4_ hb ho61
                       refine hK.out _ _ trivial (fun hHeld => ?_)
                       clear hK K
                       refine norm_ (a' := ?_) ?_ ?_
                       rotate_left
                       ·show Act.put _ (some 64) _ = _
                        simp only [Act.put, sA_, sB_, sC_, i64_w]
                        rfl
                       exact norm_ (by simp only [putAll, Act.put, sA_, sB_, sC_] <;> rfl) (hJ5_8 (v270) _ ⟨(by (with_reducible repeat (first | apply Kd.R_alloc | apply Kd.R_drewN | apply Kd.R_drew)); exact Kd.R_mono HO254.out (fun _ hk => ⟨hk.1.1, ⟨hk.1.2, hk.2⟩⟩)), (by (with_reducible repeat (first | apply Kd.R_alloc | apply Kd.R_drewN | apply Kd.R_drew)); exact Kd.R_mono HO258.out (fun _ hk => ⟨hk.1.1, ⟨hk.1.2, hk.2⟩⟩)), (by (with_reducible repeat (first | apply Kd.R_alloc | apply Kd.R_drewN | apply Kd.R_drew)); exact Kd.R_mono HO262.out (fun _ hk => ⟨hk.1.1, ⟨hk.1.2, hk.2⟩⟩)), (by (with_reducible repeat (first | apply Kd.R_alloc | apply Kd.R_drewN | apply Kd.R_drew)); exact Kd.R_mono HO271.out (fun _ hk => ⟨hk.1.1.2, ⟨hk.1.2, hk.2⟩⟩)), (bq_ HB.out)⟩)
                    ·skip
                     rintro v270 w60 ⟨h0_, h1_, h2_, h3_, h4_⟩
                     have n0_ : Aside0 (Kd.R (Kd.int .u8) 5 w60 w.heap.size (fun k_ => some k_ ≠ (v257 : Value).ownBlock ∧ some k_ ≠ (.slice Ao55 t259.length co55 : Value).ownBlock ∧ some k_ ≠ (v270 : Value).ownBlock) v253 t251) := ⟨h0_⟩
                     have n1_ : Aside0 (Kd.R (Kd.int .u8) 5 w60 w.heap.size (fun k_ => some k_ ≠ (v253 : Value).ownBlock ∧ some k_ ≠ (.slice Ao55 t259.length co55 : Value).ownBlock ∧ some k_ ≠ (v270 : Value).ownBlock) v257 t255) := ⟨h1_⟩
                     have n2_ : Aside0 (Kd.R (Kd.int .u8) 5 w60 w.heap.size (fun k_ => some k_ ≠ (v253 : Value).ownBlock ∧ some k_ ≠ (v257 : Value).ownBlock ∧ some k_ ≠ (v270 : Value).ownBlock) (.slice Ao55 t259.length co55) t259) := ⟨h2_⟩
                     have n3_ : Aside0 (Kd.R (Kd.int .u8) 5 w60 w.heap.size (fun k_ => some k_ ≠ (v253 : Value).ownBlock ∧ some k_ ≠ (v257 : Value).ownBlock ∧ some k_ ≠ (.slice Ao55 t259.length co55 : Value).ownBlock) v270 y269) := ⟨h3_⟩
                     have n4_ : Aside0 (Below w.heap.size w w60) := ⟨h4_⟩
                     clear HO254 HO258 HO262 HB h0_ h1_ h2_ h3_ h4_
                     have HO254 := n0_
                     have HO258 := n1_
                     have HO262 := n2_
                     have HO271 := n3_
                     have HB := n4_
                     clear n0_ n1_ n2_ n3_ n4_
                     have hHeld := trivial
                     refine norm_ (a' := ?_) ?_ ?_
                     rotate_left
                     ·simp only [putAll, Act.put, sA_, sB_, sC_]
                      rfl
                     refine three_ (i := 4) (j := 6) (k := 8) (Ni := some 63) (Nj := some 65) (Nk := some 67) L10_ L12_ L13_ rfl rfl rfl rfl rfl rfl (three_of HT_.out (by kernel_rfl)) (by decide) (by decide) (by decide) (fun K hK => ?_) (fun K hK => ?_) (fun K hK => ?_)
                     ·skip
                      have hcv61 := own_string (P := Try.prog) Try.underlying23 Try.underlying5 Try.underlying9 (Kd.own_of_R HO262.out)
                      refine value_ (w1 := ?_) (v := ?_) (by rfl) rfl ?_ ?_
                      rotate_left 2
                      ·go_simp
                       constructor
                       ·rfl
                       ·rfl
                      clear hcv61
                      refine hK.out _ _ trivial (fun hHeld => ?_)
                      clear hK K
                      refine norm_ (a' := ?_) ?_ ?_
                      rotate_left
                      ·show Act.put _ (some 63) _ = _
                       simp only [Act.put, sA_, sB_, sC_, i64_w]
                       rfl
                      exact norm_ (by simp only [putAll, Act.put, sA_, sB_, sC_] <;> rfl) (hJ4_5 (v270) _ ⟨(mv2_ HO254.out), (mv2_ HO258.out), (mv2_ HO262.out), (mv2_ HO271.out), (bq_ HB.out)⟩)
                     ·skip
                      have hcv61 := own_string (P := Try.prog) Try.underlying23 Try.underlying5 Try.underlying9 (Kd.own_of_R HO271.out)
                      refine value_ (w1 := ?_) (v := ?_) (by rfl) rfl ?_ ?_
                      rotate_left 2
                      ·go_simp
                       constructor
                       ·rfl
                       ·rfl
                      clear hcv61
                      refine hK.out _ _ trivial (fun hHeld => ?_)
                      clear hK K
                      refine norm_ (a' := ?_) ?_ ?_
                      rotate_left
                      ·show Act.put _ (some 65) _ = _
                       simp only [Act.put, sA_, sB_, sC_, i64_w]
                       rfl
                      exact norm_ (by simp only [putAll, Act.put, sA_, sB_, sC_] <;> rfl) (hJ5_6 (v270) _ ⟨(mv2_ HO254.out), (mv2_ HO258.out), (mv2_ HO262.out), (mv2_ HO271.out), (bq_ HB.out)⟩)
                     ·skip
                      have hcv61 := own_string (P := Try.prog) Try.underlying23 Try.underlying5 Try.underlying9 (Kd.own_of_R HO258.out)
                      refine value_ (w1 := ?_) (v := ?_) (by rfl) rfl ?_ ?_
                      rotate_left 2
                      ·go_simp
                       constructor
                       ·rfl
                       ·rfl
                      clear hcv61
                      refine hK.out _ _ trivial (fun hHeld => ?_)
                      clear hK K
                      refine norm_ (a' := ?_) ?_ ?_
                      rotate_left
                      ·show Act.put _ (some 67) _ = _
                       simp only [Act.put, sA_, sB_, sC_, i64_w]
                       rfl
                      exact norm_ (by simp only [putAll, Act.put, sA_, sB_, sC_] <;> rfl) (hJ5_8 (v270) _ ⟨(mv2_ HO254.out), (mv2_ HO258.out), (mv2_ HO262.out), (mv2_ HO271.out), (bq_ HB.out)⟩)
                   ·skip
                    rintro _ w59 ⟨h0_, h1_, h2_, h3_⟩
                    have n0_ : Aside0 (Kd.R (Kd.int .u8) 5 w59 w.heap.size (fun k_ => some k_ ≠ (v257 : Value).ownBlock ∧ some k_ ≠ (.slice Ao55 t259.length co55 : Value).ownBlock) v253 t251) := ⟨h0_⟩
                    have n1_ : Aside0 (Kd.R (Kd.int .u8) 5 w59 w.heap.size (fun k_ => some k_ ≠ (v253 : Value).ownBlock ∧ some k_ ≠ (.slice Ao55 t259.length co55 : Value).ownBlock) v257 t255) := ⟨h1_⟩
                    have n2_ : Aside0 (Kd.R (Kd.int .u8) 5 w59 w.heap.size (fun k_ => some k_ ≠ (v253 : Value).ownBlock ∧ some k_ ≠ (v257 : Value).ownBlock) (.slice Ao55 t259.length co55) t259) := ⟨h2_⟩
                    have n3_ : Aside0 (Below w.heap.size w w59) := ⟨h3_⟩
                    clear HO254 HO258 HO262 HB h0_ h1_ h2_ h3_
                    have HO254 := n0_
                    have HO258 := n1_
                    have HO262 := n2_
                    have HB := n3_
                    clear n0_ n1_ n2_ n3_
                    have hHeld := trivial
                    refine norm_ (a' := ?_) ?_ ?_
                    rotate_left
                    ·simp only [putAll, Act.put, sA_, sB_, sC_]
                     rfl
                    refine two_ (i := 5) (j := 8) (Ni := some 64) (Nj := some 67) L10_ L11_ rfl rfl rfl rfl (two_of HT_.out (by kernel_rfl)) (by decide) (by decide) (fun K hK => ?_) (fun K hK => ?_)
                    ·skip
                     refine Kd.R_make_step (Kd.int .u8) _ 5 (by rfl) (N := 64) rfl 23 _ _ rfl 6 rfl rfl Try.underlying23 (.int .u8 0) 1 info5 rfl (by decide) (by omega) 0 (ok := fun _ => True) (okp := fun _ => True) rfl (fun _ hk => hk) trivial (by omega) (by omega) (Below.refl _ _) (Nat.le_refl _) ?_
                     intro v270 w60 ho61 hb hg_ hnew_
                     clear hg_ hnew_
                     (first | rw [← Ny269.out] at ho61 | (simp only [Int.reduceToNat] at ho61; rw [← Ny269.out] at ho61))
                     have n0_ := Aside0.mk (Kd.R_elder' (mv2_ HO254.out) (Kd.R_base ho61) hb)
                     have n1_ := Aside0.mk (Kd.R_elder' (mv2_ HO258.out) (Kd.R_base ho61) hb)
                     have n2_ := Aside0.mk (Kd.R_elder' (mv2_ HO262.out) (Kd.R_base ho61) hb)
                     have n3_ := Aside0.mk (Kd.R_lower (Kd.R_new' (Kd.R_new' (Kd.R_new' ho61 (Kd.R_lt (mv2_ HO254.out))) (Kd.R_lt (mv2_ HO258.out))) (Kd.R_lt (mv2_ HO262.out))) (below_size (bq_ HB.out)))
                     have n4_ := Aside0.mk (below_step (bq_ HB.out) hb)
                     clear HO254 HO258 HO262 HB
                     have HO254 := n0_
                     have HO258 := n1_
                     have HO262 := n2_
                     have HO271 := n3_
                     have HB := n4_
                     clear n0_ n1_ n2_ n3_ n4_ hb ho61
                     refine hK.out _ _ trivial (fun hHeld => ?_)
                     clear hK K
                     refine norm_ (a' := ?_) ?_ ?_
                     rotate_left
                     ·show Act.put _ (some 64) _ = _
                      simp only [Act.put, sA_, sB_, sC_, i64_w]
                      rfl
                     exact norm_ (by simp only [putAll, Act.put, sA_, sB_, sC_] <;> rfl) (hJ4_5 (v270) _ ⟨(by (with_reducible repeat (first | apply Kd.R_alloc | apply Kd.R_drewN | apply Kd.R_drew)); exact Kd.R_mono HO254.out (fun _ hk => ⟨hk.1.1, ⟨hk.1.2, hk.2⟩⟩)), (by (with_reducible repeat (first | apply Kd.R_alloc | apply Kd.R_drewN | apply Kd.R_drew)); exact Kd.R_mono HO258.out (fun _ hk => ⟨hk.1.1, ⟨hk.1.2, hk.2⟩⟩)), (by (with_reducible repeat (first | apply Kd.R_alloc | apply Kd.R_drewN | apply Kd.R_drew)); exact Kd.R_mono HO262.out (fun _ hk => ⟨hk.1.1, ⟨hk.1.2, hk.2⟩⟩)), (by (with_reducible repeat (first | apply Kd.R_alloc | apply Kd.R_drewN | apply Kd.R_drew)); exact Kd.R_mono HO271.out (fun _ hk => ⟨hk.1.1.2, ⟨hk.1.2, hk.2⟩⟩)), (bq_ HB.out)⟩)
                    ·skip
                     have hcv60 := own_string (P := Try.prog) Try.underlying23 Try.underlying5 Try.underlying9 (Kd.own_of_R HO258.out)
                     refine value_ (w1 := ?_) (v := ?_) (by rfl) rfl ?_ ?_
                     rotate_left 2
                     ·go_simp
                      constructor
                      ·rfl
                      ·rfl
                     clear hcv60
                     refine hK.out _ _ trivial (fun hHeld => ?_)
                     clear hK K
                     refine norm_ (a' := ?_) ?_ ?_
                     rotate_left
                     ·show Act.put _ (some 67) _ = _
                      simp only [Act.put, sA_, sB_, sC_, i64_w]
                      rfl
                     exact norm_ (by simp only [putAll, Act.put, sA_, sB_, sC_] <;> rfl) (hJ4_8 () _ ⟨(mv2_ HO254.out), (mv2_ HO258.out), (mv2_ HO262.out), (bq_ HB.out)⟩)
                  ·skip
                   rintro v270 w61 ⟨h0_, h1_, h2_, h3_, h4_⟩
                   have n0_ : Aside0 (Kd.R (Kd.int .u8) 5 w61 w.heap.size (fun k_ => some k_ ≠ (v257 : Value).ownBlock ∧ some k_ ≠ (.slice Ao55 t259.length co55 : Value).ownBlock ∧ some k_ ≠ (v270 : Value).ownBlock) v253 t251) := ⟨h0_⟩
                   have n1_ : Aside0 (Kd.R (Kd.int .u8) 5 w61 w.heap.size (fun k_ => some k_ ≠ (v253 : Value).ownBlock ∧ some k_ ≠ (.slice Ao55 t259.length co55 : Value).ownBlock ∧ some k_ ≠ (v270 : Value).ownBlock) v257 t255) := ⟨h1_⟩
                   have n2_ : Aside0 (Kd.R (Kd.int .u8) 5 w61 w.heap.size (fun k_ => some k_ ≠ (v253 : Value).ownBlock ∧ some k_ ≠ (v257 : Value).ownBlock ∧ some k_ ≠ (v270 : Value).ownBlock) (.slice Ao55 t259.length co55) t259) := ⟨h2_⟩
                   have n3_ : Aside0 (Kd.R (Kd.int .u8) 5 w61 w.heap.size (fun k_ => some k_ ≠ (v253 : Value).ownBlock ∧ some k_ ≠ (v257 : Value).ownBlock ∧ some k_ ≠ (.slice Ao55 t259.length co55 : Value).ownBlock) v270 y269) := ⟨h3_⟩
                   have n4_ : Aside0 (Below w.heap.size w w61) := ⟨h4_⟩
                   clear HO254 HO258 HO262 HB h0_ h1_ h2_ h3_ h4_
                   have HO254 := n0_
                   have HO258 := n1_
                   have HO262 := n2_
                   have HO271 := n3_
                   have HB := n4_
                   clear n0_ n1_ n2_ n3_ n4_
                   have hHeld := trivial
                   refine norm_ (a' := ?_) ?_ ?_
                   rotate_left
                   ·simp only [putAll, Act.put, sA_, sB_, sC_]
                    rfl
                   refine two_ (i := 4) (j := 6) (Ni := some 63) (Nj := some 65) L8_ L17_ rfl rfl rfl rfl (two_of HT_.out (by kernel_rfl)) (by decide) (by decide) (fun K hK => ?_) (fun K hK => ?_)
                   ·skip
                    have hcv62 := own_string (P := Try.prog) Try.underlying23 Try.underlying5 Try.underlying9 (Kd.own_of_R HO262.out)
                    refine value_ (w1 := ?_) (v := ?_) (by rfl) rfl ?_ ?_
                    rotate_left 2
                    ·go_simp
                     constructor
                     ·rfl
                     ·rfl
                    clear hcv62
                    refine hK.out _ _ trivial (fun hHeld => ?_)
                    clear hK K
                    refine norm_ (a' := ?_) ?_ ?_
                    rotate_left
                    ·show Act.put _ (some 63) _ = _
                     simp only [Act.put, sA_, sB_, sC_, i64_w]
                     rfl
                    exact norm_ (by simp only [putAll, Act.put, sA_, sB_, sC_] <;> rfl) (hJ4_5_8 (v270) _ ⟨(mv2_ HO254.out), (mv2_ HO258.out), (mv2_ HO262.out), (mv2_ HO271.out), (bq_ HB.out)⟩)
                   ·skip
                    have hcv62 := own_string (P := Try.prog) Try.underlying23 Try.underlying5 Try.underlying9 (Kd.own_of_R HO271.out)
                    refine value_ (w1 := ?_) (v := ?_) (by rfl) rfl ?_ ?_
                    rotate_left 2
                    ·go_simp
                     constructor
                     ·rfl
                     ·rfl
                    clear hcv62
                    refine hK.out _ _ trivial (fun hHeld => ?_)
                    clear hK K
                    refine norm_ (a' := ?_) ?_ ?_
                    rotate_left
                    ·show Act.put _ (some 65) _ = _
                     simp only [Act.put, sA_, sB_, sC_, i64_w]
                     rfl
                    refine pure_ (i := 9) (N := some 68) (v := ?_) (a' := ?_) L9_ rfl rfl (any_of HT_.out (by kernel_rfl)) (fun _ _ _ h => h) (Or.inl ⟨by rfl, ?_⟩) ?_ ?_
                    rotate_left
                    ·intro w'
                     go_simp
                     with_reducible rfl
                    rotate_left
                    ·simp only [Act.put, sA_, sB_, sC_, i64_w]
                     rfl
                    exact norm_ (by simp only [putAll, Act.put, sA_, sB_, sC_] <;> rfl) (hJ5_6_8 (v270) _ ⟨(mv2_ HO254.out), (mv2_ HO258.out), (mv2_ HO262.out), (mv2_ HO271.out), (bq_ HB.out)⟩)
                 ·skip
                  rintro v270 w61 ⟨h0_, h1_, h2_, h3_, h4_⟩
                  have n0_ : Aside0 (Kd.R (Kd.int .u8) 5 w61 w.heap.size (fun k_ => some k_ ≠ (v257 : Value).ownBlock ∧ some k_ ≠ (.slice Ao55 t259.length co55 : Value).ownBlock ∧ some k_ ≠ (v270 : Value).ownBlock) v253 t251) := ⟨h0_⟩
                  have n1_ : Aside0 (Kd.R (Kd.int .u8) 5 w61 w.heap.size (fun k_ => some k_ ≠ (v253 : Value).ownBlock ∧ some k_ ≠ (.slice Ao55 t259.length co55 : Value).ownBlock ∧ some k_ ≠ (v270 : Value).ownBlock) v257 t255) := ⟨h1_⟩
                  have n2_ : Aside0 (Kd.R (Kd.int .u8) 5 w61 w.heap.size (fun k_ => some k_ ≠ (v253 : Value).ownBlock ∧ some k_ ≠ (v257 : Value).ownBlock ∧ some k_ ≠ (v270 : Value).ownBlock) (.slice Ao55 t259.length co55) t259) := ⟨h2_⟩
                  have n3_ : Aside0 (Kd.R (Kd.int .u8) 5 w61 w.heap.size (fun k_ => some k_ ≠ (v253 : Value).ownBlock ∧ some k_ ≠ (v257 : Value).ownBlock ∧ some k_ ≠ (.slice Ao55 t259.length co55 : Value).ownBlock) v270 y269) := ⟨h3_⟩
                  have n4_ : Aside0 (Below w.heap.size w w61) := ⟨h4_⟩
                  clear HO254 HO258 HO262 HB h0_ h1_ h2_ h3_ h4_
                  have HO254 := n0_
                  have HO258 := n1_
                  have HO262 := n2_
                  have HO271 := n3_
                  have HB := n4_
                  clear n0_ n1_ n2_ n3_ n4_
                  have hHeld := trivial
                  refine norm_ (a' := ?_) ?_ ?_
                  rotate_left
                  ·simp only [putAll, Act.put, sA_, sB_, sC_]
                   rfl
                  refine two_ (i := 4) (j := 8) (Ni := some 63) (Nj := some 67) L7_ L17_ rfl rfl rfl rfl (two_of HT_.out (by kernel_rfl)) (by decide) (by decide) (fun K hK => ?_) (fun K hK => ?_)
                  ·skip
                   have hcv62 := own_string (P := Try.prog) Try.underlying23 Try.underlying5 Try.underlying9 (Kd.own_of_R HO262.out)
                   refine value_ (w1 := ?_) (v := ?_) (by rfl) rfl ?_ ?_
                   rotate_left 2
                   ·go_simp
                    constructor
                    ·rfl
                    ·rfl
                   clear hcv62
                   refine hK.out _ _ trivial (fun hHeld => ?_)
                   clear hK K
                   refine norm_ (a' := ?_) ?_ ?_
                   rotate_left
                   ·show Act.put _ (some 63) _ = _
                    simp only [Act.put, sA_, sB_, sC_, i64_w]
                    rfl
                   exact norm_ (by simp only [putAll, Act.put, sA_, sB_, sC_] <;> rfl) (hJ4_5_6 (v270) _ ⟨(mv2_ HO254.out), (mv2_ HO258.out), (mv2_ HO262.out), (mv2_ HO271.out), (bq_ HB.out)⟩)
                  ·skip
                   have hcv62 := own_string (P := Try.prog) Try.underlying23 Try.underlying5 Try.underlying9 (Kd.own_of_R HO258.out)
                   refine value_ (w1 := ?_) (v := ?_) (by rfl) rfl ?_ ?_
                   rotate_left 2
                   ·go_simp
                    constructor
                    ·rfl
                    ·rfl
                   clear hcv62
                   refine hK.out _ _ trivial (fun hHeld => ?_)
                   clear hK K
                   refine norm_ (a' := ?_) ?_ ?_
                   rotate_left
                   ·show Act.put _ (some 67) _ = _
                    simp only [Act.put, sA_, sB_, sC_, i64_w]
                    rfl
                   refine pure_ (i := 9) (N := some 68) (v := ?_) (a' := ?_) L9_ rfl rfl (any_of HT_.out (by kernel_rfl)) (fun _ _ _ h => h) (Or.inl ⟨by rfl, ?_⟩) ?_ ?_
                   rotate_left
                   ·intro w'
                    go_simp
                    with_reducible rfl
                   rotate_left
                   ·simp only [Act.put, sA_, sB_, sC_, i64_w]
                    rfl
                   exact norm_ (by simp only [putAll, Act.put, sA_, sB_, sC_] <;> rfl) (hJ5_6_8 (v270) _ ⟨(mv2_ HO254.out), (mv2_ HO258.out), (mv2_ HO262.out), (mv2_ HO271.out), (bq_ HB.out)⟩)
                ·skip
                 rintro _ w60 ⟨h0_, h1_, h2_, h3_⟩
                 have n0_ : Aside0 (Kd.R (Kd.int .u8) 5 w60 w.heap.size (fun k_ => some k_ ≠ (v257 : Value).ownBlock ∧ some k_ ≠ (.slice Ao55 t259.length co55 : Value).ownBlock) v253 t251) := ⟨h0_⟩
                 have n1_ : Aside0 (Kd.R (Kd.int .u8) 5 w60 w.heap.size (fun k_ => some k_ ≠ (v253 : Value).ownBlock ∧ some k_ ≠ (.slice Ao55 t259.length co55 : Value).ownBlock) v257 t255) := ⟨h1_⟩
                 have n2_ : Aside0 (Kd.R (Kd.int .u8) 5 w60 w.heap.size (fun k_ => some k_ ≠ (v253 : Value).ownBlock ∧ some k_ ≠ (v257 : Value).ownBlock) (.slice Ao55 t259.length co55) t259) := ⟨h2_⟩
                 have n3_ : Aside0 (Below w.heap.size w w60) := ⟨h3_⟩
                 clear HO254 HO258 HO262 HB h0_ h1_ h2_ h3_
                 have HO254 := n0_
                 have HO258 := n1_
                 have HO262 := n2_
                 have HB := n3_
                 clear n0_ n1_ n2_ n3_
                 have hHeld := trivial
                 refine norm_ (a' := ?_) ?_ ?_
                 rotate_left
                 ·simp only [putAll, Act.put, sA_, sB_, sC_]
                  rfl
                 refine one_ (i := 5) (N := some 64) L8_ rfl rfl (one_of HT_.out (by kernel_rfl)) (by decide) (fun K hK => ?_)
                 refine Kd.R_make_step (Kd.int .u8) _ 5 (by rfl) (N := 64) rfl 23 _ _ rfl 6 rfl rfl Try.underlying23 (.int .u8 0) 1 info5 rfl (by decide) (by omega) 0 (ok := fun _ => True) (okp := fun _ => True) rfl (fun _ hk => hk) trivial (by omega) (by omega) (Below.refl _ _) (Nat.le_refl _) ?_
                 intro v270 w61 ho62 hb hg_ hnew_
                 clear hg_ hnew_
                 (first | rw [← Ny269.out] at ho62 | (simp only [Int.reduceToNat] at ho62; rw [← Ny269.out] at ho62))
                 have n0_ := Aside0.mk (Kd.R_elder' (mv2_ HO254.out) (Kd.R_base ho62) hb)
                 have n1_ := Aside0.mk (Kd.R_elder' (mv2_ HO258.out) (Kd.R_base ho62) hb)
                 have n2_ := Aside0.mk (Kd.R_elder' (mv2_ HO262.out) (Kd.R_base ho62) hb)
                 have n3_ := Aside0.mk (Kd.R_lower (Kd.R_new' (Kd.R_new' (Kd.R_new' ho62 (Kd.R_lt (mv2_ HO254.out))) (Kd.R_lt (mv2_ HO258.out))) (Kd.R_lt (mv2_ HO262.out))) (below_size (bq_ HB.out)))
                 have n4_ := Aside0.mk (below_step (bq_ HB.out) hb)
                 clear HO254 HO258 HO262 HB
                 have HO254 := n0_
                 have HO258 := n1_
                 have HO262 := n2_
                 have HO271 := n3_
                 have HB := n4_
                 clear n0_ n1_ n2_ n3_ n4_ hb ho62
                 refine hK.out _ _ trivial (fun hHeld => ?_)
                 clear hK K
                 refine norm_ (a' := ?_) ?_ ?_
                 rotate_left
                 ·show Act.put _ (some 64) _ = _
                  simp only [Act.put, sA_, sB_, sC_, i64_w]
                  rfl
                 exact norm_ (by simp only [putAll, Act.put, sA_, sB_, sC_] <;> rfl) (hJ4_5_8 (v270) _ ⟨(by (with_reducible repeat (first | apply Kd.R_alloc | apply Kd.R_drewN | apply Kd.R_drew)); exact Kd.R_mono HO254.out (fun _ hk => ⟨hk.1.1, ⟨hk.1.2, hk.2⟩⟩)), (by (with_reducible repeat (first | apply Kd.R_alloc | apply Kd.R_drewN | apply Kd.R_drew)); exact Kd.R_mono HO258.out (fun _ hk => ⟨hk.1.1, ⟨hk.1.2, hk.2⟩⟩)), (by (with_reducible repeat (first | apply Kd.R_alloc | apply Kd.R_drewN | apply Kd.R_drew)); exact Kd.R_mono HO262.out (fun _ hk => ⟨hk.1.1, ⟨hk.1.2, hk.2⟩⟩)), (by (with_reducible repeat (first | apply Kd.R_alloc | apply Kd.R_drewN | apply Kd.R_drew)); exact Kd.R_mono HO271.out (fun _ hk => ⟨hk.1.1.2, ⟨hk.1.2, hk.2⟩⟩)), (bq_ HB.out)⟩)
               ·skip
                rintro v270 w61 ⟨h0_, h1_, h2_, h3_, h4_⟩
                have n0_ : Aside0 (Kd.R (Kd.int .u8) 5 w61 w.heap.size (fun k_ => some k_ ≠ (v257 : Value).ownBlock ∧ some k_ ≠ (.slice Ao55 t259.length co55 : Value).ownBlock ∧ some k_ ≠ (v270 : Value).ownBlock) v253 t251) := ⟨h0_⟩
                have n1_ : Aside0 (Kd.R (Kd.int .u8) 5 w61 w.heap.size (fun k_ => some k_ ≠ (v253 : Value).ownBlock ∧ some k_ ≠ (.slice Ao55 t259.length co55 : Value).ownBlock ∧ some k_ ≠ (v270 : Value).ownBlock) v257 t255) := ⟨h1_⟩
                have n2_ : Aside0 (Kd.R (Kd.int .u8) 5 w61 w.heap.size (fun k_ => some k_ ≠ (v253 : Value).ownBlock ∧ some k_ ≠ (v257 : Value).ownBlock ∧ some k_ ≠ (v270 : Value).ownBlock) (.slice Ao55 t259.length co55) t259) := ⟨h2_⟩
                have n3_ : Aside0 (Kd.R (Kd.int .u8) 5 w61 w.heap.size (fun k_ => some k_ ≠ (v253 : Value).ownBlock ∧ some k_ ≠ (v257 : Value).ownBlock ∧ some k_ ≠ (.slice Ao55 t259.length co55 : Value).ownBlock) v270 y269) := ⟨h3_⟩
                have n4_ : Aside0 (Below w.heap.size w w61) := ⟨h4_⟩
                clear HO254 HO258 HO262 HB h0_ h1_ h2_ h3_ h4_
                have HO254 := n0_
                have HO258 := n1_
                have HO262 := n2_
                have HO271 := n3_
                have HB := n4_
                clear n0_ n1_ n2_ n3_ n4_
                have hHeld := trivial
                refine norm_ (a' := ?_) ?_ ?_
                rotate_left
                ·simp only [putAll, Act.put, sA_, sB_, sC_]
                 rfl
                refine two_ (i := 6) (j := 8) (Ni := some 65) (Nj := some 67) L7_ L8_ rfl rfl rfl rfl (two_of HT_.out (by kernel_rfl)) (by decide) (by decide) (fun K hK => ?_) (fun K hK => ?_)
                ·skip
                 have hcv62 := own_string (P := Try.prog) Try.underlying23 Try.underlying5 Try.underlying9 (Kd.own_of_R HO271.out)
                 refine value_ (w1 := ?_) (v := ?_) (by rfl) rfl ?_ ?_
                 rotate_left 2
                 ·go_simp
                  constructor
                  ·rfl
                  ·rfl
                 clear hcv62
                 refine hK.out _ _ trivial (fun hHeld => ?_)
                 clear hK K
                 refine norm_ (a' := ?_) ?_ ?_
                 rotate_left
                 ·show Act.put _ (some 65) _ = _
                  simp only [Act.put, sA_, sB_, sC_, i64_w]
                  rfl
                 exact norm_ (by simp only [putAll, Act.put, sA_, sB_, sC_] <;> rfl) (hJ4_5_6 (v270) _ ⟨(mv2_ HO254.out), (mv2_ HO258.out), (mv2_ HO262.out), (mv2_ HO271.out), (bq_ HB.out)⟩)
                ·skip
                 have hcv62 := own_string (P := Try.prog) Try.underlying23 Try.underlying5 Try.underlying9 (Kd.own_of_R HO258.out)
                 refine value_ (w1 := ?_) (v := ?_) (by rfl) rfl ?_ ?_
                 rotate_left 2
                 ·go_simp
                  constructor
                  ·rfl
                  ·rfl
                 clear hcv62
                 refine hK.out _ _ trivial (fun hHeld => ?_)
                 clear hK K
                 refine norm_ (a' := ?_) ?_ ?_
                 rotate_left
                 ·show Act.put _ (some 67) _ = _
                  simp only [Act.put, sA_, sB_, sC_, i64_w]
                  rfl
                 exact norm_ (by simp only [putAll, Act.put, sA_, sB_, sC_] <;> rfl) (hJ4_5_8 (v270) _ ⟨(mv2_ HO254.out), (mv2_ HO258.out), (mv2_ HO262.out), (mv2_ HO271.out), (bq_ HB.out)⟩)
              ·skip
               rintro v270 w62 ⟨h0_, h1_, h2_, h3_, h4_⟩
               have n0_ : Aside0 (Kd.R (Kd.int .u8) 5 w62 w.heap.size (fun k_ => some k_ ≠ (v257 : Value).ownBlock ∧ some k_ ≠ (.slice Ao55 t259.length co55 : Value).ownBlock ∧ some k_ ≠ (v270 : Value).ownBlock) v253 t251) := ⟨h0_⟩
               have n1_ : Aside0 (Kd.R (Kd.int .u8) 5 w62 w.heap.size (fun k_ => some k_ ≠ (v253 : Value).ownBlock ∧ some k_ ≠ (.slice Ao55 t259.length co55 : Value).ownBlock ∧ some k_ ≠ (v270 : Value).ownBlock) v257 t255) := ⟨h1_⟩
               have n2_ : Aside0 (Kd.R (Kd.int .u8) 5 w62 w.heap.size (fun k_ => some k_ ≠ (v253 : Value).ownBlock ∧ some k_ ≠ (v257 : Value).ownBlock ∧ some k_ ≠ (v270 : Value).ownBlock) (.slice Ao55 t259.length co55) t259) := ⟨h2_⟩
               have n3_ : Aside0 (Kd.R (Kd.int .u8) 5 w62 w.heap.size (fun k_ => some k_ ≠ (v253 : Value).ownBlock ∧ some k_ ≠ (v257 : Value).ownBlock ∧ some k_ ≠ (.slice Ao55 t259.length co55 : Value).ownBlock) v270 y269) := ⟨h3_⟩
               have n4_ : Aside0 (Below w.heap.size w w62) := ⟨h4_⟩
               clear HO254 HO258 HO262 HB h0_ h1_ h2_ h3_ h4_
               have HO254 := n0_
               have HO258 := n1_
               have HO262 := n2_
               have HO271 := n3_
               have HB := n4_
               clear n0_ n1_ n2_ n3_ n4_
               have hHeld := trivial
               refine norm_ (a' := ?_) ?_ ?_
               rotate_left
               ·simp only [putAll, Act.put, sA_, sB_, sC_]
                rfl
               refine one_ (i := 4) (N := some 63) L6_ rfl rfl (one_of HT_.out (by kernel_rfl)) (by decide) (fun K hK => ?_)
               have hcv63 := own_string (P := Try.prog) Try.underlying23 Try.underlying5 Try.underlying9 (Kd.own_of_R HO262.out)
               refine value_ (w1 := ?_) (v := ?_) (by rfl) rfl ?_ ?_
               rotate_left 2
               ·go_simp
                constructor
                ·rfl
                ·rfl
               clear hcv63
               refine hK.out _ _ trivial (fun hHeld => ?_)
               clear hK K
               refine norm_ (a' := ?_) ?_ ?_
               rotate_left
               ·show Act.put _ (some 63) _ = _
                simp only [Act.put, sA_, sB_, sC_, i64_w]
                rfl
               exact norm_ (by simp only [putAll, Act.put, sA_, sB_, sC_] <;> rfl) (hJ4_5_6_8 (v270) _ ⟨(mv2_ HO254.out), (mv2_ HO258.out), (mv2_ HO262.out), (mv2_ HO271.out), (bq_ HB.out)⟩)
             ·skip
              rintro v270 w62 ⟨h0_, h1_, h2_, h3_, h4_⟩
              have n0_ : Aside0 (Kd.R (Kd.int .u8) 5 w62 w.heap.size (fun k_ => some k_ ≠ (v257 : Value).ownBlock ∧ some k_ ≠ (.slice Ao55 t259.length co55 : Value).ownBlock ∧ some k_ ≠ (v270 : Value).ownBlock) v253 t251) := ⟨h0_⟩
              have n1_ : Aside0 (Kd.R (Kd.int .u8) 5 w62 w.heap.size (fun k_ => some k_ ≠ (v253 : Value).ownBlock ∧ some k_ ≠ (.slice Ao55 t259.length co55 : Value).ownBlock ∧ some k_ ≠ (v270 : Value).ownBlock) v257 t255) := ⟨h1_⟩
              have n2_ : Aside0 (Kd.R (Kd.int .u8) 5 w62 w.heap.size (fun k_ => some k_ ≠ (v253 : Value).ownBlock ∧ some k_ ≠ (v257 : Value).ownBlock ∧ some k_ ≠ (v270 : Value).ownBlock) (.slice Ao55 t259.length co55) t259) := ⟨h2_⟩
              have n3_ : Aside0 (Kd.R (Kd.int .u8) 5 w62 w.heap.size (fun k_ => some k_ ≠ (v253 : Value).ownBlock ∧ some k_ ≠ (v257 : Value).ownBlock ∧ some k_ ≠ (.slice Ao55 t259.length co55 : Value).ownBlock) v270 y269) := ⟨h3_⟩
              have n4_ : Aside0 (Below w.heap.size w w62) := ⟨h4_⟩
              clear HO254 HO258 HO262 HB h0_ h1_ h2_ h3_ h4_
              have HO254 := n0_
              have HO258 := n1_
              have HO262 := n2_
              have HO271 := n3_
              have HB := n4_
              clear n0_ n1_ n2_ n3_ n4_
              have hHeld := trivial
              refine norm_ (a' := ?_) ?_ ?_
              rotate_left
              ·simp only [putAll, Act.put, sA_, sB_, sC_]
               rfl
              refine one_ (i := 6) (N := some 65) L18_ rfl rfl (one_of HT_.out (by kernel_rfl)) (by decide) (fun K hK => ?_)
              have hcv63 := own_string (P := Try.prog) Try.underlying23 Try.underlying5 Try.underlying9 (Kd.own_of_R HO271.out)
              refine value_ (w1 := ?_) (v := ?_) (by rfl) rfl ?_ ?_
              rotate_left 2
              ·go_simp
               constructor
               ·rfl
               ·rfl
              clear hcv63
              refine hK.out _ _ trivial (fun hHeld => ?_)
              clear hK K
              refine norm_ (a' := ?_) ?_ ?_
              rotate_left
              ·show Act.put _ (some 65) _ = _
               simp only [Act.put, sA_, sB_, sC_, i64_w]
               rfl
              refine pure_ (i := 9) (N := some 68) (v := ?_) (a' := ?_) L6_ rfl rfl (any_of HT_.out (by kernel_rfl)) (fun _ _ _ h => h) (Or.inl ⟨by rfl, ?_⟩) ?_ ?_
              rotate_left
              ·intro w'
               go_simp
               with_reducible rfl
              rotate_left
              ·simp only [Act.put, sA_, sB_, sC_, i64_w]
               rfl
              exact norm_ (by simp only [putAll, Act.put, sA_, sB_, sC_] <;> rfl) (hJ4_5_6_8 (v270) _ ⟨(mv2_ HO254.out), (mv2_ HO258.out), (mv2_ HO262.out), (mv2_ HO271.out), (bq_ HB.out)⟩)
            ·skip
             rintro v270 w62 ⟨h0_, h1_, h2_, h3_, h4_⟩
             have n0_ : Aside0 (Kd.R (Kd.int .u8) 5 w62 w.heap.size (fun k_ => some k_ ≠ (v257 : Value).ownBlock ∧ some k_ ≠ (.slice Ao55 t259.length co55 : Value).ownBlock ∧ some k_ ≠ (v270 : Value).ownBlock) v253 t251) := ⟨h0_⟩
             have n1_ : Aside0 (Kd.R (Kd.int .u8) 5 w62 w.heap.size (fun k_ => some k_ ≠ (v253 : Value).ownBlock ∧ some k_ ≠ (.slice Ao55 t259.length co55 : Value).ownBlock ∧ some k_ ≠ (v270 : Value).ownBlock) v257 t255) := ⟨h1_⟩
             have n2_ : Aside0 (Kd.R (Kd.int .u8) 5 w62 w.heap.size (fun k_ => some k_ ≠ (v253 : Value).ownBlock ∧ some k_ ≠ (v257 : Value).ownBlock ∧ some k_ ≠ (v270 : Value).ownBlock) (.slice Ao55 t259.length co55) t259) := ⟨h2_⟩
             have n3_ : Aside0 (Kd.R (Kd.int .u8) 5 w62 w.heap.size (fun k_ => some k_ ≠ (v253 : Value).ownBlock ∧ some k_ ≠ (v257 : Value).ownBlock ∧ some k_ ≠ (.slice Ao55 t259.length co55 : Value).ownBlock) v270 y269) := ⟨h3_⟩
             have n4_ : Aside0 (Below w.heap.size w w62) := ⟨h4_⟩
             clear HO254 HO258 HO262 HB h0_ h1_ h2_ h3_ h4_
             have HO254 := n0_
             have HO258 := n1_
             have HO262 := n2_
             have HO271 := n3_
             have HB := n4_
             clear n0_ n1_ n2_ n3_ n4_
             have hHeld := trivial
             refine norm_ (a' := ?_) ?_ ?_
             rotate_left
             ·simp only [putAll, Act.put, sA_, sB_, sC_]
              rfl
             refine one_ (i := 8) (N := some 67) L18_ rfl rfl (one_of HT_.out (by kernel_rfl)) (by decide) (fun K hK => ?_)
             have hcv63 := own_string (P := Try.prog) Try.underlying23 Try.underlying5 Try.underlying9 (Kd.own_of_R HO258.out)
             refine value_ (w1 := ?_) (v := ?_) (by rfl) rfl ?_ ?_
             rotate_left 2
             ·go_simp
              constructor
              ·rfl
              ·rfl
             clear hcv63
             refine hK.out _ _ trivial (fun hHeld => ?_)
             clear hK K
             refine norm_ (a' := ?_) ?_ ?_
             rotate_left
             ·show Act.put _ (some 67) _ = _
              simp only [Act.put, sA_, sB_, sC_, i64_w]
              rfl
             refine pure_ (i := 9) (N := some 68) (v := ?_) (a' := ?_) L6_ rfl rfl (any_of HT_.out (by kernel_rfl)) (fun _ _ _ h => h) (Or.inl ⟨by rfl, ?_⟩) ?_ ?_
             rotate_left
             ·intro w'
              go_simp
              with_reducible rfl
             rotate_left
             ·simp only [Act.put, sA_, sB_, sC_, i64_w]
              rfl
             exact norm_ (by simp only [putAll, Act.put, sA_, sB_, sC_] <;> rfl) (hJ4_5_6_8 (v270) _ ⟨(mv2_ HO254.out), (mv2_ HO258.out), (mv2_ HO262.out), (mv2_ HO271.out), (bq_ HB.out)⟩)
           rintro v270 w63 ⟨h0_, h1_, h2_, h3_, h4_⟩
           have n0_ : Aside0 (Kd.R (Kd.int .u8) 5 w63 w.heap.size (fun k_ => some k_ ≠ (v257 : Value).ownBlock ∧ some k_ ≠ (.slice Ao55 t259.length co55 : Value).ownBlock ∧ some k_ ≠ (v270 : Value).ownBlock) v253 t251) := ⟨h0_⟩
           have n1_ : Aside0 (Kd.R (Kd.int .u8) 5 w63 w.heap.size (fun k_ => some k_ ≠ (v253 : Value).ownBlock ∧ some k_ ≠ (.slice Ao55 t259.length co55 : Value).ownBlock ∧ some k_ ≠ (v270 : Value).ownBlock) v257 t255) := ⟨h1_⟩
           have n2_ : Aside0 (Kd.R (Kd.int .u8) 5 w63 w.heap.size (fun k_ => some k_ ≠ (v253 : Value).ownBlock ∧ some k_ ≠ (v257 : Value).ownBlock ∧ some k_ ≠ (v270 : Value).ownBlock) (.slice Ao55 t259.length co55) t259) := ⟨h2_⟩
           have n3_ : Aside0 (Kd.R (Kd.int .u8) 5 w63 w.heap.size (fun k_ => some k_ ≠ (v253 : Value).ownBlock ∧ some k_ ≠ (v257 : Value).ownBlock ∧ some k_ ≠ (.slice Ao55 t259.length co55 : Value).ownBlock) v270 y269) := ⟨h3_⟩
           have n4_ : Aside0 (Below w.heap.size w w63) := ⟨h4_⟩
           clear HO254 HO258 HO262 HB h0_ h1_ h2_ h3_ h4_
           have HO254 := n0_
           have HO258 := n1_
           have HO262 := n2_
           have HO271 := n3_
           have HB := n4_
           clear n0_ n1_ n2_ n3_ n4_
           have hHeld := trivial
           refine norm_ (a' := ?_) ?_ ?_
           rotate_left
           ·simp only [putAll, Act.put, sA_, sB_, sC_]
            rfl
           refine pure_ (i := 10) (N := some 69) (v := ?_) (a' := ?_) L19_ rfl rfl (any_of HT_.out (by kernel_rfl)) (fun _ _ _ h => h) (Or.inl ⟨by rfl, ?_⟩) ?_ ?_
           rotate_left
           ·intro w'
            go_simp
            with_reducible rfl
           rotate_left
           ·simp only [Act.put, sA_, sB_, sC_, i64_w]
            rfl
           refine pure_ (i := 11) (N := some 70) (v := ?_) (a' := ?_) L20_ rfl rfl (any_of HT_.out (by kernel_rfl)) (fun _ _ _ h => h) (Or.inl ⟨by rfl, ?_⟩) ?_ ?_
           rotate_left
           ·intro w'
            go_simp
            with_reducible rfl
           rotate_left
           ·simp only [Act.put, sA_, sB_, sC_, i64_w]
            rfl
           refine pure_ (i := 12) (N := some 71) (v := ?_) (a' := ?_) L21_ rfl rfl (any_of HT_.out (by kernel_rfl)) (fun _ _ _ h => h) (Or.inl ⟨by rfl, ?_⟩) ?_ ?_
           rotate_left
           ·intro w'
            go_simp
            with_reducible rfl
           rotate_left
           ·simp only [Act.put, sA_, sB_, sC_, i64_w]
            rfl
           refine pure_ (i := 13) (N := some 72) (v := undef) (a' := ?_) L22_ rfl rfl (any_of HT_.out (by kernel_rfl)) (fun _ _ _ h => h) (Or.inr ⟨by rfl, rfl⟩) ?_ ?_
           rotate_left
           ·simp only [Act.put, sA_, sB_, sC_, i64_w]
            rfl
           refine pure_ (i := 14) (N := some 73) (v := undef) (a' := ?_) L23_ rfl rfl (any_of HT_.out (by kernel_rfl)) (fun _ _ _ h => h) (Or.inr ⟨by rfl, rfl⟩) ?_ ?_
           rotate_left
           ·simp only [Act.put, sA_, sB_, sC_, i64_w]
            rfl
           refine pure_ (i := 15) (N := some 74) (v := undef) (a' := ?_) L24_ rfl rfl (any_of HT_.out (by kernel_rfl)) (fun _ _ _ h => h) (Or.inr ⟨by rfl, rfl⟩) ?_ ?_
           rotate_left
           ·simp only [Act.put, sA_, sB_, sC_, i64_w]
            rfl
           refine pure_ (i := 16) (N := some 75) (v := undef) (a' := ?_) L25_ rfl rfl (any_of HT_.out (by kernel_rfl)) (fun _ _ _ h => h) (Or.inr ⟨by rfl, rfl⟩) ?_ ?_
           rotate_left
           ·simp only [Act.put, sA_, sB_, sC_, i64_w]
            rfl
           refine pure_ (i := 17) (N := some 76) (v := undef) (a' := ?_) L26_ rfl rfl (any_of HT_.out (by kernel_rfl)) (fun _ _ _ h => h) (Or.inr ⟨by rfl, rfl⟩) ?_ ?_
           rotate_left
           ·simp only [Act.put, sA_, sB_, sC_, i64_w]
            rfl
           refine pure_ (i := 18) (N := some 77) (v := undef) (a' := ?_) L27_ rfl rfl (any_of HT_.out (by kernel_rfl)) (fun _ _ _ h => h) (Or.inr ⟨by rfl, rfl⟩) ?_ ?_
           rotate_left
           ·simp only [Act.put, sA_, sB_, sC_, i64_w]
            rfl
           refine pure_ (i := 19) (N := some 78) (v := undef) (a' := ?_) L28_ rfl rfl (any_of HT_.out (by kernel_rfl)) (fun _ _ _ h => h) (Or.inr ⟨by rfl, rfl⟩) ?_ ?_
           rotate_left
           ·simp only [Act.put, sA_, sB_, sC_, i64_w]
            rfl
           refine pure_ (i := 20) (N := some 79) (v := undef) (a' := ?_) L29_ rfl rfl (any_of HT_.out (by kernel_rfl)) (fun _ _ _ h => h) (Or.inr ⟨by rfl, rfl⟩) ?_ ?_
           rotate_left
           ·simp only [Act.put, sA_, sB_, sC_, i64_w]
            rfl
           refine pure_ (i := 21) (N := some 80) (v := undef) (a' := ?_) L30_ rfl rfl (any_of HT_.out (by kernel_rfl)) (fun _ _ _ h => h) (Or.inr ⟨by rfl, rfl⟩) ?_ ?_
           rotate_left
           ·simp only [Act.put, sA_, sB_, sC_, i64_w]
            rfl
           refine pure_ (i := 22) (N := some 81) (v := undef) (a' := ?_) L31_ rfl rfl (any_of HT_.out (by kernel_rfl)) (fun _ _ _ h => h) (Or.inr ⟨by rfl, rfl⟩) ?_ ?_
           rotate_left
           ·simp only [Act.put, sA_, sB_, sC_, i64_w]
            rfl
           refine pure_ (i := 23) (N := some 82) (v := ?_) (a' := ?_) L32_ rfl rfl (any_of HT_.out (by kernel_rfl)) (fun _ _ _ h => h) (Or.inl ⟨by rfl, ?_⟩) ?_ ?_
           rotate_left
           ·intro w'
            go_simp
            with_reducible rfl
           rotate_left
           ·simp only [Act.put, sA_, sB_, sC_, i64_w]
            rfl
           refine pure_ (i := 24) (N := some 11) (v := ?_) (a' := ?_) L33_ rfl rfl (any_of HT_.out (by kernel_rfl)) (fun _ _ _ h => h) (Or.inl ⟨by rfl, ?_⟩) ?_ ?_
           rotate_left
           ·intro w'
            go_simp
            with_reducible rfl
           rotate_left
           ·simp only [Act.put, sA_, sB_, sC_, i64_w]
            rfl
           refine done_ (done_of HT_.out (by kernel_rfl)) ?_
           try go_wp2
           go_ret
           exact ⟨by first | rfl | (simp [errW_none, errW_some] <;> rfl) | (simp [*, errW_none, errW_some] <;> rfl), by repeat (first | (with_reducible first | exact HB.out | apply below_alloc | apply pw_below_drewN | apply below_drew1) | exact HB.out)⟩
          ·rw [if_neg c50] at H
           exact absurd H (by simp)
         ·replace c49 := Bool.eq_false_iff.mpr c49
          subst c49
          have H1 : (none) = some r := by rw [if_neg (show ¬ (false = true) by decide)] at H; exact H
          clear H
          have H := H1
          clear H1
          exact absurd H (by simp)
        ·rw [if_neg c48] at H
         exact absurd H (by simp)
       ·rw [if_neg c47] at H
        exact absurd H (by simp)
      ·rw [if_neg c46] at H
       have c46b0 : (t256 == 0) = false := beq_eq_false_iff_ne.mpr c46
       have c46b1 : (t256 != 0) = true := bne_iff_ne.mpr c46
       by_cases c64 : t256 = 40
       ·rw [if_pos c64] at H
        have c64b0 : (t256 == 40) = true := beq_iff_eq.mpr c64
        have c64b1 : (t256 != 40) = false := bne_eq_false_iff_eq.mpr c64
        clear c64
        by_cases c65 : t250 = true
        ·subst c65
         have H1 : (if a0 > 255 then (some (decide (a0 > 65535))) else (none)) = some r := by rw [if_pos rfl] at H; exact H
         clear H
         have H := H1
         clear H1
         by_cases c66 : a0 > 255
         ·rw [if_pos c66] at H
          have c66b0 : decide (255 < a0) = true := decide_eq_true c66
          clear c66
          obtain rfl := Option.some.inj H
          go_enter Try.func7, Try.ntmps7
          try go_wp2_with (first | ((with_reducible refine gate_callee (f := 8) rfl ?_); refine goesL_ (some 12) rfl rfl Try.func8 (by kernel_rfl) rfl #[] rfl (by (try simp only [List.map_toArray, List.map_cons, List.map_nil]); first | done | rfl) ?_; (with_reducible refine (fullerlaw08_awake.calls k  true _ A2.out).mono ?_); rintro e w67 ⟨rfl, hb⟩; refine ⟨_, rfl, ?_⟩; have n0_ := Aside0.mk (below_step (bq_ HB.out) hb); clear HB; have HB := n0_; clear n0_; (try clear hb)) | ((with_reducible refine gate_callee (f := 9) rfl ?_); refine goesL_ (some 15) rfl rfl Try.func9 (by kernel_rfl) rfl #[.slice none 0 0, .int .i64 a0, .int .i64 1] rfl (by (try simp only [List.map_toArray, List.map_cons, List.map_nil]); first | done | rfl) ?_; (refine (pack_Put.calls _ _ ([] : List Int) a0 1 t251 t252 _ ?side1 ?side2 A3.out).mono ?_); (case side1 => exact Kd.C_nil _ _); (case side2 => exact Nat.le_refl _); rintro e w68 ⟨v253, rfl, ho0, hb⟩; refine ⟨_, rfl, ?_⟩; have n0_ := Aside0.mk (Kd.R_lower ho0 (below_size (bq_ HB.out))); have n1_ := Aside0.mk (below_step (bq_ HB.out) hb); clear HB; have HO254 := n0_; have HB := n1_; clear n0_ n1_; (try clear hb); (try clear ho0)) | ((with_reducible refine gate_callee (f := 9) rfl ?_); refine goesL_ (some 20) rfl rfl Try.func9 (by kernel_rfl) rfl #[.slice none 0 0, .int .i64 a0, .int .i64 2] rfl (by (try simp only [List.map_toArray, List.map_cons, List.map_nil]); first | done | rfl) ?_; (refine (pack_Put.calls _ _ ([] : List Int) a0 2 t255 t256 _ ?side1 ?side2 A4.out).mono ?_); (case side1 => exact Kd.C_nil _ _); (case side2 => exact Nat.le_refl _); rintro e w69 ⟨v257, rfl, ho0, hb⟩; refine ⟨_, rfl, ?_⟩; have n0_ := Aside0.mk (Kd.R_elder' (mv2_ HO254.out) (Kd.R_base ho0) hb); have n1_ := Aside0.mk (Kd.R_lower (Kd.R_new' ho0 (Kd.R_lt (mv2_ HO254.out))) (below_size (bq_ HB.out))); have n2_ := Aside0.mk (below_step (bq_ HB.out) hb); clear HO254; clear HB; have HO254 := n0_; have HO258 := n1_; have HB := n2_; clear n0_ n1_ n2_; (try clear hb); (try clear ho0)) | ((with_reducible refine gate_callee (f := 9) rfl ?_); refine goesL_ (some 25) rfl rfl Try.func9 (by kernel_rfl) rfl #[.slice none 0 0, .int .i64 a0, .int .i64 8] rfl (by (try simp only [List.map_toArray, List.map_cons, List.map_nil]); first | done | rfl) ?_; (refine (pack_Put.calls _ _ ([] : List Int) a0 8 t259 t260 _ ?side1 ?side2 A5.out).mono ?_); (case side1 => exact Kd.C_nil _ _); (case side2 => exact Nat.le_refl _); rintro e w70 ⟨v261, rfl, ho0, hb⟩; refine ⟨_, rfl, ?_⟩; have n0_ := Aside0.mk (Kd.R_elder' (mv2_ HO254.out) (Kd.R_base ho0) hb); have n1_ := Aside0.mk (Kd.R_elder' (mv2_ HO258.out) (Kd.R_base ho0) hb); have n2_ := Aside0.mk (Kd.R_lower (Kd.R_new' (Kd.R_new' ho0 (Kd.R_lt (mv2_ HO254.out))) (Kd.R_lt (mv2_ HO258.out))) (below_size (bq_ HB.out))); have n3_ := Aside0.mk (below_step (bq_ HB.out) hb); clear HO254; clear HO258; clear HB; have HO254 := n0_; have HO258 := n1_; have HO262 := n2_; have HB := n3_; clear n0_ n1_ n2_ n3_; (try clear hb); (try clear ho0); obtain ⟨Ao71, co71, eo71⟩ := Kd.R_slice HO262.out; subst eo71))
          have n0_ := Aside0.mk (Kd.R_drew HO254.out)
          have n1_ := Aside0.mk (Kd.R_drew HO258.out)
          have n2_ := Aside0.mk (Kd.R_drew HO262.out)
          have n3_ := Aside0.mk (below_drew1 HB.out)
          clear HO254 HO258 HO262 HB
          have HO254 := n0_
          have HO258 := n1_
          have HO262 := n2_
          have HB := n3_
          clear n0_ n1_ n2_ n3_
          refine start_ (n := 25) (S := fun w' => True) (ds := []) L0_ (by kernel_rfl) rfl rfl trivial (fun hHeld => ?_); refine with_tabW fullerlaw08_PackWide.tab7 fullerlaw08_PackWide.bits7 (fun HT_ HW_ => ?_)
          generalize w70.drew = w72 at HO254 HO258 HO262 HB hHeld ⊢
          refine pure_ (i := 0) (N := some 35) (v := ?_) (a' := ?_) L1_ rfl rfl (any_of HT_.out (by kernel_rfl)) (fun _ _ _ h => h) (Or.inl ⟨by rfl, ?_⟩) ?_ ?_
          rotate_left
          ·intro w'
           go_simp
           with_reducible rfl
          rotate_left
          ·simp only [Act.put, sA_, sB_, sC_, i64_w]
           rfl
          refine pure_ (i := 1) (N := some 36) (v := ?_) (a' := ?_) L2_ rfl rfl (any_of HT_.out (by kernel_rfl)) (fun _ _ _ h => h) (Or.inl ⟨by rfl, ?_⟩) ?_ ?_
          rotate_left
          ·intro w'
           go_simp
           with_reducible rfl
          rotate_left
          ·simp only [Act.put, sA_, sB_, sC_, i64_w]
           rfl
          refine pure_ (i := 2) (N := some 37) (v := ?_) (a' := ?_) L3_ rfl rfl (any_of HT_.out (by kernel_rfl)) (fun _ _ _ h => h) (Or.inl ⟨by rfl, ?_⟩) ?_ ?_
          rotate_left
          ·intro w'
           go_simp
           with_reducible rfl
          rotate_left
          ·simp only [Act.put, sA_, sB_, sC_, i64_w]
           rfl
          refine pure_ (i := 3) (N := some 38) (v := undef) (a' := ?_) L4_ rfl rfl (any_of HT_.out (by kernel_rfl)) (fun _ _ _ h => h) (Or.inr ⟨by rfl, rfl⟩) ?_ ?_
          rotate_left
          ·simp only [Act.put, sA_, sB_, sC_, i64_w]
           rfl
          refine pure_ (i := 4) (N := some 39) (v := undef) (a' := ?_) L34_ rfl rfl (any_of HT_.out (by kernel_rfl)) (fun _ _ _ h => h) (Or.inr ⟨by rfl, rfl⟩) ?_ ?_
          rotate_left
          ·simp only [Act.put, sA_, sB_, sC_, i64_w]
           rfl
          refine pure_ (i := 5) (N := some 40) (v := undef) (a' := ?_) L35_ rfl rfl (any_of HT_.out (by kernel_rfl)) (fun _ _ _ h => h) (Or.inr ⟨by rfl, rfl⟩) ?_ ?_
          rotate_left
          ·simp only [Act.put, sA_, sB_, sC_, i64_w]
           rfl
          refine pure_ (i := 6) (N := some 41) (v := undef) (a' := ?_) L36_ rfl rfl (any_of HT_.out (by kernel_rfl)) (fun _ _ _ h => h) (Or.inr ⟨by rfl, rfl⟩) ?_ ?_
          rotate_left
          ·simp only [Act.put, sA_, sB_, sC_, i64_w]
           rfl
          refine pure_ (i := 7) (N := some 42) (v := undef) (a' := ?_) L7_ rfl rfl (any_of HT_.out (by kernel_rfl)) (fun _ _ _ h => h) (Or.inr ⟨by rfl, rfl⟩) ?_ ?_
          rotate_left
          ·simp only [Act.put, sA_, sB_, sC_, i64_w]
           rfl
          refine pure_ (i := 8) (N := some 43) (v := undef) (a' := ?_) L18_ rfl rfl (any_of HT_.out (by kernel_rfl)) (fun _ _ _ h => h) (Or.inr ⟨by rfl, rfl⟩) ?_ ?_
          rotate_left
          ·simp only [Act.put, sA_, sB_, sC_, i64_w]
           rfl
          refine pure_ (i := 9) (N := some 44) (v := undef) (a' := ?_) L6_ rfl rfl (any_of HT_.out (by kernel_rfl)) (fun _ _ _ h => h) (Or.inr ⟨by rfl, rfl⟩) ?_ ?_
          rotate_left
          ·simp only [Act.put, sA_, sB_, sC_, i64_w]
           rfl
          refine pure_ (i := 10) (N := some 45) (v := undef) (a' := ?_) L19_ rfl rfl (any_of HT_.out (by kernel_rfl)) (fun _ _ _ h => h) (Or.inr ⟨by rfl, rfl⟩) ?_ ?_
          rotate_left
          ·simp only [Act.put, sA_, sB_, sC_, i64_w]
           rfl
          refine pure_ (i := 11) (N := some 46) (v := ?_) (a' := ?_) L20_ rfl rfl (any_of HT_.out (by kernel_rfl)) (fun _ _ _ h => h) (Or.inl ⟨by rfl, ?_⟩) ?_ ?_
          rotate_left
          ·intro w'
           go_simp
           with_reducible rfl
          rotate_left
          ·simp only [Act.put, sA_, sB_, sC_, i64_w]
           rfl
          refine pure_ (i := 12) (N := some 47) (v := ?_) (a' := ?_) L21_ rfl rfl (any_of HT_.out (by kernel_rfl)) (fun _ _ _ h => h) (Or.inl ⟨by rfl, ?_⟩) ?_ ?_
          rotate_left
          ·intro w'
           go_simp
           with_reducible rfl
          rotate_left
          ·simp only [Act.put, sA_, sB_, sC_, i64_w]
           rfl
          refine pure_ (i := 13) (N := some 48) (v := ?_) (a' := ?_) L22_ rfl rfl (any_of HT_.out (by kernel_rfl)) (fun _ _ _ h => h) (Or.inl ⟨by rfl, ?_⟩) ?_ ?_
          rotate_left
          ·intro w'
           go_simp
           with_reducible rfl
          rotate_left
          ·simp only [Act.put, sA_, sB_, sC_, i64_w]
           rfl
          refine pure_ (i := 14) (N := some 49) (v := ?_) (a' := ?_) L23_ rfl rfl (any_of HT_.out (by kernel_rfl)) (fun _ _ _ h => h) (Or.inl ⟨by rfl, ?_⟩) ?_ ?_
          rotate_left
          ·intro w'
           go_simp
           with_reducible rfl
          rotate_left
          ·simp only [Act.put, sA_, sB_, sC_, i64_w]
           rfl
          refine pure_ (i := 15) (N := some 50) (v := ?_) (a' := ?_) L24_ rfl rfl (any_of HT_.out (by kernel_rfl)) (fun _ _ _ h => h) (Or.inl ⟨by rfl, ?_⟩) ?_ ?_
          rotate_left
          ·intro w'
           go_simp
           with_reducible rfl
          rotate_left
          ·simp only [Act.put, sA_, sB_, sC_, i64_w]
           rfl
          refine pure_ (i := 16) (N := some 51) (v := ?_) (a' := ?_) L25_ rfl rfl (any_of HT_.out (by kernel_rfl)) (fun _ _ _ h => h) (Or.inl ⟨by rfl, ?_⟩) ?_ ?_
          rotate_left
          ·intro w'
           go_simp
           with_reducible rfl
          rotate_left
          ·simp only [Act.put, sA_, sB_, sC_, i64_w]
           rfl
          refine pure_ (i := 17) (N := some 52) (v := ?_) (a' := ?_) L26_ rfl rfl (any_of HT_.out (by kernel_rfl)) (fun _ _ _ h => h) (Or.inl ⟨by rfl, ?_⟩) ?_ ?_
          rotate_left
          ·intro w'
           go_simp
           with_reducible rfl
          rotate_left
          ·simp only [Act.put, sA_, sB_, sC_, i64_w]
           rfl
          refine pure_ (i := 18) (N := some 53) (v := ?_) (a' := ?_) L27_ rfl rfl (any_of HT_.out (by kernel_rfl)) (fun _ _ _ h => h) (Or.inl ⟨by rfl, ?_⟩) ?_ ?_
          rotate_left
          ·intro w'
           go_simp
           with_reducible rfl
          rotate_left
          ·simp only [Act.put, sA_, sB_, sC_, i64_w]
           rfl
          refine pure_ (i := 19) (N := some 54) (v := ?_) (a' := ?_) L28_ rfl rfl (any_of HT_.out (by kernel_rfl)) (fun _ _ _ h => h) (Or.inl ⟨by rfl, ?_⟩) ?_ ?_
          rotate_left
          ·intro w'
           go_simp
           with_reducible rfl
          rotate_left
          ·simp only [Act.put, sA_, sB_, sC_, i64_w]
           rfl
          refine pure_ (i := 20) (N := some 55) (v := ?_) (a' := ?_) L29_ rfl rfl (any_of HT_.out (by kernel_rfl)) (fun _ _ _ h => h) (Or.inl ⟨by rfl, ?_⟩) ?_ ?_
          rotate_left
          ·intro w'
           go_simp
           with_reducible rfl
          rotate_left
          ·simp only [Act.put, sA_, sB_, sC_, i64_w]
           rfl
          refine pure_ (i := 21) (N := some 56) (v := ?_) (a' := ?_) L30_ rfl rfl (any_of HT_.out (by kernel_rfl)) (fun _ _ _ h => h) (Or.inl ⟨by rfl, ?_⟩) ?_ ?_
          rotate_left
          ·intro w'
           go_simp
           with_reducible rfl
          rotate_left
          ·simp only [Act.put, sA_, sB_, sC_, i64_w]
           rfl
          refine pure_ (i := 22) (N := some 57) (v := ?_) (a' := ?_) L31_ rfl rfl (any_of HT_.out (by kernel_rfl)) (fun _ _ _ h => h) (Or.inl ⟨by rfl, ?_⟩) ?_ ?_
          rotate_left
          ·intro w'
           go_simp
           with_reducible rfl
          rotate_left
          ·simp only [Act.put, sA_, sB_, sC_, i64_w]
           rfl
          refine pure_ (i := 23) (N := some 58) (v := ?_) (a' := ?_) L32_ rfl rfl (any_of HT_.out (by kernel_rfl)) (fun _ _ _ h => h) (Or.inl ⟨by rfl, ?_⟩) ?_ ?_
          rotate_left
          ·intro w'
           go_simp
           with_reducible rfl
          rotate_left
          ·simp only [Act.put, sA_, sB_, sC_, i64_w]
           rfl
          refine pure_ (i := 24) (N := some 10) (v := ?_) (a' := ?_) L33_ rfl rfl (any_of HT_.out (by kernel_rfl)) (fun _ _ _ h => h) (Or.inl ⟨by rfl, ?_⟩) ?_ ?_
          rotate_left
          ·intro w'
           go_simp
           with_reducible rfl
          rotate_left
          ·simp only [Act.put, sA_, sB_, sC_, i64_w]
           rfl
          refine done_ (done_of HT_.out (by kernel_rfl)) ?_
          try go_wp2
          have n0_ := Aside0.mk (Kd.R_drew HO254.out)
          have n1_ := Aside0.mk (Kd.R_drew HO258.out)
          have n2_ := Aside0.mk (Kd.R_drew HO262.out)
          have n3_ := Aside0.mk (below_drew1 HB.out)
          clear HO254 HO258 HO262 HB
          have HO254 := n0_
          have HO258 := n1_
          have HO262 := n2_
          have HB := n3_
          clear n0_ n1_ n2_ n3_
          refine start_ (n := 25) (S := fun w' => True) (ds := []) L0_ (by kernel_rfl) rfl rfl trivial (fun hHeld => ?_); refine with_tabW fullerlaw08_PackWide.tab8 fullerlaw08_PackWide.bits8 (fun HT_ HW_ => ?_)
          generalize w72.drew = w73 at HO254 HO258 HO262 HB hHeld ⊢
          refine pure_ (i := 0) (N := some 59) (v := ?_) (a' := ?_) L1_ rfl rfl (any_of HT_.out (by kernel_rfl)) (fun _ _ _ h => h) (Or.inl ⟨by rfl, ?_⟩) ?_ ?_
          rotate_left
          ·intro w'
           go_simp
           with_reducible rfl
          rotate_left
          ·simp only [Act.put, sA_, sB_, sC_, i64_w]
           rfl
          refine pure_ (i := 1) (N := some 60) (v := ?_) (a' := ?_) L2_ rfl rfl (any_of HT_.out (by kernel_rfl)) (fun _ _ _ h => h) (Or.inl ⟨by rfl, ?_⟩) ?_ ?_
          rotate_left
          ·intro w'
           go_simp
           with_reducible rfl
          rotate_left
          ·simp only [Act.put, sA_, sB_, sC_, i64_w]
           rfl
          refine pure_ (i := 2) (N := some 61) (v := ?_) (a' := ?_) L3_ rfl rfl (any_of HT_.out (by kernel_rfl)) (fun _ _ _ h => h) (Or.inl ⟨by rfl, ?_⟩) ?_ ?_
          rotate_left
          ·intro w'
           go_simp
           with_reducible rfl
          rotate_left
          ·simp only [Act.put, sA_, sB_, sC_, i64_w]
           rfl
          refine pure_ (i := 3) (N := some 62) (v := undef) (a' := ?_) L4_ rfl rfl (any_of HT_.out (by kernel_rfl)) (fun _ _ _ h => h) (Or.inr ⟨by rfl, rfl⟩) ?_ ?_
          rotate_left
          ·simp only [Act.put, sA_, sB_, sC_, i64_w]
           rfl
          refine pure_ (i := 4) (N := some 63) (v := undef) (a' := ?_) L34_ rfl rfl (any_of HT_.out (by kernel_rfl)) (fun _ _ _ h => h) (Or.inr ⟨by rfl, rfl⟩) ?_ ?_
          rotate_left
          ·simp only [Act.put, sA_, sB_, sC_, i64_w]
           rfl
          refine pure_ (i := 5) (N := some 64) (v := undef) (a' := ?_) L35_ rfl rfl (any_of HT_.out (by kernel_rfl)) (fun _ _ _ h => h) (Or.inr ⟨by rfl, rfl⟩) ?_ ?_
          rotate_left
          ·simp only [Act.put, sA_, sB_, sC_, i64_w]
           rfl
          refine pure_ (i := 6) (N := some 65) (v := undef) (a' := ?_) L36_ rfl rfl (any_of HT_.out (by kernel_rfl)) (fun _ _ _ h => h) (Or.inr ⟨by rfl, rfl⟩) ?_ ?_
          rotate_left
          ·simp only [Act.put, sA_, sB_, sC_, i64_w]
           rfl
          refine pure_ (i := 7) (N := some 66) (v := undef) (a' := ?_) L7_ rfl rfl (any_of HT_.out (by kernel_rfl)) (fun _ _ _ h => h) (Or.inr ⟨by rfl, rfl⟩) ?_ ?_
          rotate_left
          ·simp only [Act.put, sA_, sB_, sC_, i64_w]
           rfl
          refine pure_ (i := 8) (N := some 67) (v := undef) (a' := ?_) L18_ rfl rfl (any_of HT_.out (by kernel_rfl)) (fun _ _ _ h => h) (Or.inr ⟨by rfl, rfl⟩) ?_ ?_
          rotate_left
          ·simp only [Act.put, sA_, sB_, sC_, i64_w]
           rfl
          refine pure_ (i := 9) (N := some 68) (v := undef) (a' := ?_) L6_ rfl rfl (any_of HT_.out (by kernel_rfl)) (fun _ _ _ h => h) (Or.inr ⟨by rfl, rfl⟩) ?_ ?_
          rotate_left
          ·simp only [Act.put, sA_, sB_, sC_, i64_w]
           rfl
          refine pure_ (i := 10) (N := some 69) (v := undef) (a' := ?_) L19_ rfl rfl (any_of HT_.out (by kernel_rfl)) (fun _ _ _ h => h) (Or.inr ⟨by rfl, rfl⟩) ?_ ?_
          rotate_left
          ·simp only [Act.put, sA_, sB_, sC_, i64_w]
           rfl
          refine pure_ (i := 11) (N := some 70) (v := ?_) (a' := ?_) L20_ rfl rfl (any_of HT_.out (by kernel_rfl)) (fun _ _ _ h => h) (Or.inl ⟨by rfl, ?_⟩) ?_ ?_
          rotate_left
          ·intro w'
           go_simp
           with_reducible rfl
          rotate_left
          ·simp only [Act.put, sA_, sB_, sC_, i64_w]
           rfl
          refine pure_ (i := 12) (N := some 71) (v := ?_) (a' := ?_) L21_ rfl rfl (any_of HT_.out (by kernel_rfl)) (fun _ _ _ h => h) (Or.inl ⟨by rfl, ?_⟩) ?_ ?_
          rotate_left
          ·intro w'
           go_simp
           with_reducible rfl
          rotate_left
          ·simp only [Act.put, sA_, sB_, sC_, i64_w]
           rfl
          refine pure_ (i := 13) (N := some 72) (v := ?_) (a' := ?_) L22_ rfl rfl (any_of HT_.out (by kernel_rfl)) (fun _ _ _ h => h) (Or.inl ⟨by rfl, ?_⟩) ?_ ?_
          rotate_left
          ·intro w'
           go_simp
           with_reducible rfl
          rotate_left
          ·simp only [Act.put, sA_, sB_, sC_, i64_w]
           rfl
          refine pure_ (i := 14) (N := some 73) (v := ?_) (a' := ?_) L23_ rfl rfl (any_of HT_.out (by kernel_rfl)) (fun _ _ _ h => h) (Or.inl ⟨by rfl, ?_⟩) ?_ ?_
          rotate_left
          ·intro w'
           go_simp
           with_reducible rfl
          rotate_left
          ·simp only [Act.put, sA_, sB_, sC_, i64_w]
           rfl
          refine pure_ (i := 15) (N := some 74) (v := ?_) (a' := ?_) L24_ rfl rfl (any_of HT_.out (by kernel_rfl)) (fun _ _ _ h => h) (Or.inl ⟨by rfl, ?_⟩) ?_ ?_
          rotate_left
          ·intro w'
           go_simp
           with_reducible rfl
          rotate_left
          ·simp only [Act.put, sA_, sB_, sC_, i64_w]
           rfl
          refine pure_ (i := 16) (N := some 75) (v := ?_) (a' := ?_) L25_ rfl rfl (any_of HT_.out (by kernel_rfl)) (fun _ _ _ h => h) (Or.inl ⟨by rfl, ?_⟩) ?_ ?_
          rotate_left
          ·intro w'
           go_simp
           with_reducible rfl
          rotate_left
          ·simp only [Act.put, sA_, sB_, sC_, i64_w]
           rfl
          refine pure_ (i := 17) (N := some 76) (v := ?_) (a' := ?_) L26_ rfl rfl (any_of HT_.out (by kernel_rfl)) (fun _ _ _ h => h) (Or.inl ⟨by rfl, ?_⟩) ?_ ?_
          rotate_left
          ·intro w'
           go_simp
           with_reducible rfl
          rotate_left
          ·simp only [Act.put, sA_, sB_, sC_, i64_w]
           rfl
          refine pure_ (i := 18) (N := some 77) (v := ?_) (a' := ?_) L27_ rfl rfl (any_of HT_.out (by kernel_rfl)) (fun _ _ _ h => h) (Or.inl ⟨by rfl, ?_⟩) ?_ ?_
          rotate_left
          ·intro w'
           go_simp
           with_reducible rfl
          rotate_left
          ·simp only [Act.put, sA_, sB_, sC_, i64_w]
           rfl
          refine pure_ (i := 19) (N := some 78) (v := ?_) (a' := ?_) L28_ rfl rfl (any_of HT_.out (by kernel_rfl)) (fun _ _ _ h => h) (Or.inl ⟨by rfl, ?_⟩) ?_ ?_
          rotate_left
          ·intro w'
           go_simp
           with_reducible rfl
          rotate_left
          ·simp only [Act.put, sA_, sB_, sC_, i64_w]
           rfl
          refine pure_ (i := 20) (N := some 79) (v := ?_) (a' := ?_) L29_ rfl rfl (any_of HT_.out (by kernel_rfl)) (fun _ _ _ h => h) (Or.inl ⟨by rfl, ?_⟩) ?_ ?_
          rotate_left
          ·intro w'
           go_simp
           with_reducible rfl
          rotate_left
          ·simp only [Act.put, sA_, sB_, sC_, i64_w]
           rfl
          refine pure_ (i := 21) (N := some 80) (v := ?_) (a' := ?_) L30_ rfl rfl (any_of HT_.out (by kernel_rfl)) (fun _ _ _ h => h) (Or.inl ⟨by rfl, ?_⟩) ?_ ?_
          rotate_left
          ·intro w'
           go_simp
           with_reducible rfl
          rotate_left
          ·simp only [Act.put, sA_, sB_, sC_, i64_w]
           rfl
          refine pure_ (i := 22) (N := some 81) (v := ?_) (a' := ?_) L31_ rfl rfl (any_of HT_.out (by kernel_rfl)) (fun _ _ _ h => h) (Or.inl ⟨by rfl, ?_⟩) ?_ ?_
          rotate_left
          ·intro w'
           go_simp
           with_reducible rfl
          rotate_left
          ·simp only [Act.put, sA_, sB_, sC_, i64_w]
           rfl
          refine pure_ (i := 23) (N := some 82) (v := ?_) (a' := ?_) L32_ rfl rfl (any_of HT_.out (by kernel_rfl)) (fun _ _ _ h => h) (Or.inl ⟨by rfl, ?_⟩) ?_ ?_
          rotate_left
          ·intro w'
           go_simp
           with_reducible rfl
          rotate_left
          ·simp only [Act.put, sA_, sB_, sC_, i64_w]
           rfl
          refine pure_ (i := 24) (N := some 11) (v := ?_) (a' := ?_) L33_ rfl rfl (any_of HT_.out (by kernel_rfl)) (fun _ _ _ h => h) (Or.inl ⟨by rfl, ?_⟩) ?_ ?_
          rotate_left
          ·intro w'
           go_simp
           with_reducible rfl
          rotate_left
          ·simp only [Act.put, sA_, sB_, sC_, i64_w]
           rfl
          refine done_ (done_of HT_.out (by kernel_rfl)) ?_
          try go_wp2
          go_ret
          exact ⟨by first | rfl | (simp [errW_none, errW_some] <;> rfl) | (simp [*, errW_none, errW_some] <;> rfl), by repeat (first | (with_reducible first | exact HB.out | apply below_alloc | apply pw_below_drewN | apply below_drew1) | exact HB.out)⟩
         ·rw [if_neg c66] at H
          exact absurd H (by simp)
        ·replace c65 := Bool.eq_false_iff.mpr c65
         subst c65
         have H1 : (none) = some r := by rw [if_neg (show ¬ (false = true) by decide)] at H; exact H
         clear H
         have H := H1
         clear H1
         exact absurd H (by simp)
       ·rw [if_neg c64] at H
        exact absurd H (by simp)
    ·rw [if_neg c34] at H
     exact absurd H (by simp)
  ·rw [if_neg c7] at H
   have c7b0 : ((t259.length : Int) == 8) = false := beq_eq_false_iff_ne.mpr c7
   have c7b1 : ((t259.length : Int) != 8) = true := bne_iff_ne.mpr c7
   obtain rfl := Option.some.inj H
   go_enter Try.func7, Try.ntmps7
   go_wp2_with (first | ((with_reducible refine gate_callee (f := 8) rfl ?_); refine goesL_ (some 12) rfl rfl Try.func8 (by kernel_rfl) rfl #[] rfl (by (try simp only [List.map_toArray, List.map_cons, List.map_nil]); first | done | rfl) ?_; (with_reducible refine (fullerlaw08_awake.calls k  t250 _ A2.out).mono ?_); rintro e w74 ⟨rfl, hb⟩; refine ⟨_, rfl, ?_⟩; have n0_ := Aside0.mk (below_step (bq_ HB.out) hb); clear HB; have HB := n0_; clear n0_; (try clear hb)) | ((with_reducible refine gate_callee (f := 9) rfl ?_); refine goesL_ (some 15) rfl rfl Try.func9 (by kernel_rfl) rfl #[.slice none 0 0, .int .i64 a0, .int .i64 1] rfl (by (try simp only [List.map_toArray, List.map_cons, List.map_nil]); first | done | rfl) ?_; (refine (pack_Put.calls _ _ ([] : List Int) a0 1 t251 t252 _ ?side1 ?side2 A3.out).mono ?_); (case side1 => exact Kd.C_nil _ _); (case side2 => exact Nat.le_refl _); rintro e w75 ⟨v253, rfl, ho0, hb⟩; refine ⟨_, rfl, ?_⟩; have n0_ := Aside0.mk (Kd.R_lower ho0 (below_size (bq_ HB.out))); have n1_ := Aside0.mk (below_step (bq_ HB.out) hb); clear HB; have HO254 := n0_; have HB := n1_; clear n0_ n1_; (try clear hb); (try clear ho0)) | ((with_reducible refine gate_callee (f := 9) rfl ?_); refine goesL_ (some 20) rfl rfl Try.func9 (by kernel_rfl) rfl #[.slice none 0 0, .int .i64 a0, .int .i64 2] rfl (by (try simp only [List.map_toArray, List.map_cons, List.map_nil]); first | done | rfl) ?_; (refine (pack_Put.calls _ _ ([] : List Int) a0 2 t255 t256 _ ?side1 ?side2 A4.out).mono ?_); (case side1 => exact Kd.C_nil _ _); (case side2 => exact Nat.le_refl _); rintro e w76 ⟨v257, rfl, ho0, hb⟩; refine ⟨_, rfl, ?_⟩; have n0_ := Aside0.mk (Kd.R_elder' (mv2_ HO254.out) (Kd.R_base ho0) hb); have n1_ := Aside0.mk (Kd.R_lower (Kd.R_new' ho0 (Kd.R_lt (mv2_ HO254.out))) (below_size (bq_ HB.out))); have n2_ := Aside0.mk (below_step (bq_ HB.out) hb); clear HO254; clear HB; have HO254 := n0_; have HO258 := n1_; have HB := n2_; clear n0_ n1_ n2_; (try clear hb); (try clear ho0)) | ((with_reducible refine gate_callee (f := 9) rfl ?_); refine goesL_ (some 25) rfl rfl Try.func9 (by kernel_rfl) rfl #[.slice none 0 0, .int .i64 a0, .int .i64 8] rfl (by (try simp only [List.map_toArray, List.map_cons, List.map_nil]); first | done | rfl) ?_; (refine (pack_Put.calls _ _ ([] : List Int) a0 8 t259 t260 _ ?side1 ?side2 A5.out).mono ?_); (case side1 => exact Kd.C_nil _ _); (case side2 => exact Nat.le_refl _); rintro e w77 ⟨v261, rfl, ho0, hb⟩; refine ⟨_, rfl, ?_⟩; have n0_ := Aside0.mk (Kd.R_elder' (mv2_ HO254.out) (Kd.R_base ho0) hb); have n1_ := Aside0.mk (Kd.R_elder' (mv2_ HO258.out) (Kd.R_base ho0) hb); have n2_ := Aside0.mk (Kd.R_lower (Kd.R_new' (Kd.R_new' ho0 (Kd.R_lt (mv2_ HO254.out))) (Kd.R_lt (mv2_ HO258.out))) (below_size (bq_ HB.out))); have n3_ := Aside0.mk (below_step (bq_ HB.out) hb); clear HO254; clear HO258; clear HB; have HO254 := n0_; have HO258 := n1_; have HO262 := n2_; have HB := n3_; clear n0_ n1_ n2_ n3_; (try clear hb); (try clear ho0); obtain ⟨Ao78, co78, eo78⟩ := Kd.R_slice HO262.out; subst eo78))
   go_ret
   exact ⟨by first | rfl | (simp [errW_none, errW_some] <;> rfl) | (simp [*, errW_none, errW_some] <;> rfl), by repeat (first | (with_reducible first | exact HB.out | apply below_alloc | apply pw_below_drewN | apply below_drew1) | exact HB.out)⟩
 ·rw [if_neg c6] at H
  have c6b0 : (t260 == 0) = false := beq_eq_false_iff_ne.mpr c6
  have c6b1 : (t260 != 0) = true := bne_iff_ne.mpr c6
  obtain rfl := Option.some.inj H
  go_enter Try.func7, Try.ntmps7
  go_wp2_with (first | ((with_reducible refine gate_callee (f := 8) rfl ?_); refine goesL_ (some 12) rfl rfl Try.func8 (by kernel_rfl) rfl #[] rfl (by (try simp only [List.map_toArray, List.map_cons, List.map_nil]); first | done | rfl) ?_; (with_reducible refine (fullerlaw08_awake.calls k  t250 _ A2.out).mono ?_); rintro e w79 ⟨rfl, hb⟩; refine ⟨_, rfl, ?_⟩; have n0_ := Aside0.mk (below_step (bq_ HB.out) hb); clear HB; have HB := n0_; clear n0_; (try clear hb)) | ((with_reducible refine gate_callee (f := 9) rfl ?_); refine goesL_ (some 15) rfl rfl Try.func9 (by kernel_rfl) rfl #[.slice none 0 0, .int .i64 a0, .int .i64 1] rfl (by (try simp only [List.map_toArray, List.map_cons, List.map_nil]); first | done | rfl) ?_; (refine (pack_Put.calls _ _ ([] : List Int) a0 1 t251 t252 _ ?side1 ?side2 A3.out).mono ?_); (case side1 => exact Kd.C_nil _ _); (case side2 => exact Nat.le_refl _); rintro e w80 ⟨v253, rfl, ho0, hb⟩; refine ⟨_, rfl, ?_⟩; have n0_ := Aside0.mk (Kd.R_lower ho0 (below_size (bq_ HB.out))); have n1_ := Aside0.mk (below_step (bq_ HB.out) hb); clear HB; have HO254 := n0_; have HB := n1_; clear n0_ n1_; (try clear hb); (try clear ho0)) | ((with_reducible refine gate_callee (f := 9) rfl ?_); refine goesL_ (some 20) rfl rfl Try.func9 (by kernel_rfl) rfl #[.slice none 0 0, .int .i64 a0, .int .i64 2] rfl (by (try simp only [List.map_toArray, List.map_cons, List.map_nil]); first | done | rfl) ?_; (refine (pack_Put.calls _ _ ([] : List Int) a0 2 t255 t256 _ ?side1 ?side2 A4.out).mono ?_); (case side1 => exact Kd.C_nil _ _); (case side2 => exact Nat.le_refl _); rintro e w81 ⟨v257, rfl, ho0, hb⟩; refine ⟨_, rfl, ?_⟩; have n0_ := Aside0.mk (Kd.R_elder' (mv2_ HO254.out) (Kd.R_base ho0) hb); have n1_ := Aside0.mk (Kd.R_lower (Kd.R_new' ho0 (Kd.R_lt (mv2_ HO254.out))) (below_size (bq_ HB.out))); have n2_ := Aside0.mk (below_step (bq_ HB.out) hb); clear HO254; clear HB; have HO254 := n0_; have HO258 := n1_; have HB := n2_; clear n0_ n1_ n2_; (try clear hb); (try clear ho0)) | ((with_reducible refine gate_callee (f := 9) rfl ?_); refine goesL_ (some 25) rfl rfl Try.func9 (by kernel_rfl) rfl #[.slice none 0 0, .int .i64 a0, .int .i64 8] rfl (by (try simp only [List.map_toArray, List.map_cons, List.map_nil]); first | done | rfl) ?_; (refine (pack_Put.calls _ _ ([] : List Int) a0 8 t259 t260 _ ?side1 ?side2 A5.out).mono ?_); (case side1 => exact Kd.C_nil _ _); (case side2 => exact Nat.le_refl _); rintro e w82 ⟨v261, rfl, ho0, hb⟩; refine ⟨_, rfl, ?_⟩; have n0_ := Aside0.mk (Kd.R_elder' (mv2_ HO254.out) (Kd.R_base ho0) hb); have n1_ := Aside0.mk (Kd.R_elder' (mv2_ HO258.out) (Kd.R_base ho0) hb); have n2_ := Aside0.mk (Kd.R_lower (Kd.R_new' (Kd.R_new' ho0 (Kd.R_lt (mv2_ HO254.out))) (Kd.R_lt (mv2_ HO258.out))) (below_size (bq_ HB.out))); have n3_ := Aside0.mk (below_step (bq_ HB.out) hb); clear HO254; clear HO258; clear HB; have HO254 := n0_; have HO258 := n1_; have HO262 := n2_; have HB := n3_; clear n0_ n1_ n2_ n3_; (try clear hb); (try clear ho0)))
  go_ret
  exact ⟨by first | rfl | (simp [errW_none, errW_some] <;> rfl) | (simp [*, errW_none, errW_some] <;> rfl), by repeat (first | (with_reducible first | exact HB.out | apply below_alloc | apply pw_below_drewN | apply below_drew1) | exact HB.out)⟩

/-- THE ONE PURE STATEMENT of fullerlaw08_PackWide: yours. -/
def fullerlaw08_PackWide.Pure : Prop := ∀ (a0 : Int), (Lit.int .i64 a0).wf = true → ∃ k, fullerlaw08_PackWide.f k a0 = some true
theorem fullerlaw08_PackWide.walk (P : fullerlaw08_PackWide.Pure) (a0 : Int) (w : World) (w0 : (Lit.int .i64 a0).wf = true) :
    Calls Try.prog 7 #[.int .i64 a0] w fun e w' => e = .returned (.bool true) ∧ Below w.heap.size w w' := by
  obtain ⟨k, h⟩ := P a0 w0
  refine (fullerlaw08_PackWide.calls k a0 true w h).mono ?_
  rintro e w' ⟨rfl, hd⟩
  exact ⟨rfl, hd⟩

end Go.Proofs.Ytmlbdfgodcddeaa.A
