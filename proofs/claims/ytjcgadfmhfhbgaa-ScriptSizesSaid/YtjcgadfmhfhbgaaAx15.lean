/- Lean functions that answer as the Go functions do, and the proofs that they do; no conditions. Written by this session's own driver: a scratch copy of the kit's print with the session's additions (wip/xprint). -/
import Derived.Test.YtjcgadfmhfhbgaaAx0
import Derived.Test.YtjcgadfmhfhbgaaAx4
import Derived.Test.YtjcgadfmhfhbgaaAx7
import Derived.Test.YtjcgadfmhfhbgaaAx10
import Derived.Test.YtjcgadfmhfhbgaaAx14
namespace Go.Proofs.Ytjcgadfmhfhbgaa.A
open Go.RowKit Go.Proofs.YtjcgadfmhfhbgaaW.PrintWords Go.Proofs.YtjcgadfmhfhbgaaW.PrintLast Go.Proofs.YtjcgadfmhfhbgaaW.PrintMore
attribute [local go_sem] max2_int min2_int max_two min_two max_three min_three max_four min_four
set_option linter.unusedVariables false
set_option linter.unusedSimpArgs false
def fullerlaw23_awake.f (k : Nat)  : Option (Bool) := (some (([(⟨4, 3, ([] : List (S48)), (⟨([] : List Int), ([] : List Int)⟩ : S26), (⟨0, 0, 0, 0⟩ : S28), 0, 0⟩ : S30), (⟨6, 0, ([] : List (S48)), (⟨([] : List Int), ([] : List Int)⟩ : S26), (⟨0, 0, 0, 0⟩ : S28), 0, 0⟩ : S30), (⟨8, 0, ([] : List (S48)), (⟨([] : List Int), ([] : List Int)⟩ : S26), (⟨0, 0, 0, 0⟩ : S28), 0, 5⟩ : S30), (⟨2, 0, (([(⟨1, ([] : List Int), ([] : List Int)⟩ : S48)] : List (S48))), (⟨([] : List Int), ([] : List Int)⟩ : S26), (⟨0, 0, 0, 0⟩ : S28), 0, 0⟩ : S30)] : List (S30)) : List (S30))).bind fun y221 => ((script_Write.f k y221).bind fun bt224 => ((script_Read.f k bt224.1).bind fun bt228 => ((script_Write.f k (([(⟨0, 0, ([] : List (S48)), (⟨([] : List Int), ([] : List Int)⟩ : S26), (⟨0, 0, 0, 0⟩ : S28), 0, 0⟩ : S30)] : List (S30)))).bind fun bt235 => ((script_Read.f k (([4] : List Int))).bind fun bt242 => (if (strOfNums bt224.1).toList = ([4, 3, 6, 8, 5, 2, 0, 0, 4, 1, 1, 0, 0, 0] : List UInt8) then (if bt224.2 = 0 then ((fullerref23_Same.f k bt228.1 y221).bind fun t246 => (if t246 = true then (if bt228.2 = 0 then (if bt235.2 = 230 then (if bt242.2 = 230 then (if 0 < (y221.length : Int) then ((script_Check.f k ((rd_T30 y221 0).f0) ((rd_T30 y221 0).f1) ((rd_T30 y221 0).f2) ((rd_T30 y221 0).f3.f0) ((rd_T30 y221 0).f3.f1) ((rd_T30 y221 0).f4.f0) ((rd_T30 y221 0).f4.f1) ((rd_T30 y221 0).f4.f2) ((rd_T30 y221 0).f4.f3) ((rd_T30 y221 0).f5) ((rd_T30 y221 0).f6)).bind fun t248 => (if t248 = true then ((script_Check.f k 6 1 ([] : List (S48)) ([] : List Int) ([] : List Int) 0 0 0 0 0 0).bind fun t249 => (if t249 = true then (none) else (some true))) else (none))) else (none)) else (none)) else (none)) else (none)) else (none))) else (none)) else (none))))))
theorem fullerlaw23_awake.mono : ∀ k, LeO (fullerlaw23_awake.f k ) (fullerlaw23_awake.f (k + 1) ) := by
 intro  k
 unfold fullerlaw23_awake.f
 repeat' first
  | (with_reducible first | exact fullerref23_Same.mono _ _ _ | exact script_Check.mono _ _ _ _ _ _ _ _ _ _ _ _ | exact script_Read.mono _ _ | exact script_Write.mono _ _ | exact LeO.refl _ | exact LeO.none _ | refine LeO.ite ?_ ?_ | refine LeO.bind ?_ (fun _ => ?_))
  | first | exact fullerref23_Same.mono _ _ _ | exact script_Check.mono _ _ _ _ _ _ _ _ _ _ _ _ | exact script_Read.mono _ _ | exact script_Write.mono _ _ | exact LeO.none _ | refine LeO.ite ?_ ?_ | refine LeO.bind ?_ (fun _ => ?_)
set_option maxHeartbeats 8000000 in
set_option maxRecDepth 100000 in
theorem fullerlaw23_awake.calls (k : Nat)  (r : Bool) (w : World) (h : fullerlaw23_awake.f k  = some r) :
  Calls Try.prog 8 #[] w fun e w' => e = .returned (.bool r) ∧ Below w.heap.size w w' := by
 have hu30 := Try.underlying30
 have hu48 := Try.underlying48
 have HB := Aside0.mk (Below.refl w.heap.size w)
 have H : ((some (([(⟨4, 3, ([] : List (S48)), (⟨([] : List Int), ([] : List Int)⟩ : S26), (⟨0, 0, 0, 0⟩ : S28), 0, 0⟩ : S30), (⟨6, 0, ([] : List (S48)), (⟨([] : List Int), ([] : List Int)⟩ : S26), (⟨0, 0, 0, 0⟩ : S28), 0, 0⟩ : S30), (⟨8, 0, ([] : List (S48)), (⟨([] : List Int), ([] : List Int)⟩ : S26), (⟨0, 0, 0, 0⟩ : S28), 0, 5⟩ : S30), (⟨2, 0, (([(⟨1, ([] : List Int), ([] : List Int)⟩ : S48)] : List (S48))), (⟨([] : List Int), ([] : List Int)⟩ : S26), (⟨0, 0, 0, 0⟩ : S28), 0, 0⟩ : S30)] : List (S30)) : List (S30))).bind fun y221 => ((script_Write.f k y221).bind fun bt224 => ((script_Read.f k bt224.1).bind fun bt228 => ((script_Write.f k (([(⟨0, 0, ([] : List (S48)), (⟨([] : List Int), ([] : List Int)⟩ : S26), (⟨0, 0, 0, 0⟩ : S28), 0, 0⟩ : S30)] : List (S30)))).bind fun bt235 => ((script_Read.f k (([4] : List Int))).bind fun bt242 => (if (strOfNums bt224.1).toList = ([4, 3, 6, 8, 5, 2, 0, 0, 4, 1, 1, 0, 0, 0] : List UInt8) then (if bt224.2 = 0 then ((fullerref23_Same.f k bt228.1 y221).bind fun t246 => (if t246 = true then (if bt228.2 = 0 then (if bt235.2 = 230 then (if bt242.2 = 230 then (if 0 < (y221.length : Int) then ((script_Check.f k ((rd_T30 y221 0).f0) ((rd_T30 y221 0).f1) ((rd_T30 y221 0).f2) ((rd_T30 y221 0).f3.f0) ((rd_T30 y221 0).f3.f1) ((rd_T30 y221 0).f4.f0) ((rd_T30 y221 0).f4.f1) ((rd_T30 y221 0).f4.f2) ((rd_T30 y221 0).f4.f3) ((rd_T30 y221 0).f5) ((rd_T30 y221 0).f6)).bind fun t248 => (if t248 = true then ((script_Check.f k 6 1 ([] : List (S48)) ([] : List Int) ([] : List Int) 0 0 0 0 0 0).bind fun t249 => (if t249 = true then (none) else (some true))) else (none))) else (none)) else (none)) else (none)) else (none)) else (none))) else (none)) else (none))))))) = some r := h
 clear h
 obtain ⟨y218, hy218⟩ : ∃ y_ : List (S48), y_ = (([(⟨1, ([] : List Int), ([] : List Int)⟩ : S48)] : List (S48))) := ⟨_, rfl⟩
 replace H : ((some (([(⟨4, 3, ([] : List (S48)), (⟨([] : List Int), ([] : List Int)⟩ : S26), (⟨0, 0, 0, 0⟩ : S28), 0, 0⟩ : S30), (⟨6, 0, ([] : List (S48)), (⟨([] : List Int), ([] : List Int)⟩ : S26), (⟨0, 0, 0, 0⟩ : S28), 0, 0⟩ : S30), (⟨8, 0, ([] : List (S48)), (⟨([] : List Int), ([] : List Int)⟩ : S26), (⟨0, 0, 0, 0⟩ : S28), 0, 5⟩ : S30), (⟨2, 0, y218, (⟨([] : List Int), ([] : List Int)⟩ : S26), (⟨0, 0, 0, 0⟩ : S28), 0, 0⟩ : S30)] : List (S30)) : List (S30))).bind fun y221 => ((script_Write.f k y221).bind fun bt224 => ((script_Read.f k bt224.1).bind fun bt228 => ((script_Write.f k (([(⟨0, 0, ([] : List (S48)), (⟨([] : List Int), ([] : List Int)⟩ : S26), (⟨0, 0, 0, 0⟩ : S28), 0, 0⟩ : S30)] : List (S30)))).bind fun bt235 => ((script_Read.f k (([4] : List Int))).bind fun bt242 => (if (strOfNums bt224.1).toList = ([4, 3, 6, 8, 5, 2, 0, 0, 4, 1, 1, 0, 0, 0] : List UInt8) then (if bt224.2 = 0 then ((fullerref23_Same.f k bt228.1 y221).bind fun t246 => (if t246 = true then (if bt228.2 = 0 then (if bt235.2 = 230 then (if bt242.2 = 230 then (if 0 < (y221.length : Int) then ((script_Check.f k ((rd_T30 y221 0).f0) ((rd_T30 y221 0).f1) ((rd_T30 y221 0).f2) ((rd_T30 y221 0).f3.f0) ((rd_T30 y221 0).f3.f1) ((rd_T30 y221 0).f4.f0) ((rd_T30 y221 0).f4.f1) ((rd_T30 y221 0).f4.f2) ((rd_T30 y221 0).f4.f3) ((rd_T30 y221 0).f5) ((rd_T30 y221 0).f6)).bind fun t248 => (if t248 = true then ((script_Check.f k 6 1 ([] : List (S48)) ([] : List Int) ([] : List Int) 0 0 0 0 0 0).bind fun t249 => (if t249 = true then (none) else (some true))) else (none))) else (none)) else (none)) else (none)) else (none)) else (none))) else (none)) else (none))))))) = some r := by first | (rw [hy218]; with_reducible exact H) | (have H2_ := (Option.bind_some _ _).symm.trans H; rw [hy218]; with_reducible exact H2_) | (have H2_ := (Option.bind_some _ _).symm.trans H; with_reducible exact H2_) | with_reducible exact H | (rw [hy218]; exact H) | exact H
 have Ny218 := Aside0.mk hy218
 clear hy218
 obtain ⟨y221, hy221⟩ : ∃ y_ : List (S30), y_ = (([(⟨4, 3, ([] : List (S48)), (⟨([] : List Int), ([] : List Int)⟩ : S26), (⟨0, 0, 0, 0⟩ : S28), 0, 0⟩ : S30), (⟨6, 0, ([] : List (S48)), (⟨([] : List Int), ([] : List Int)⟩ : S26), (⟨0, 0, 0, 0⟩ : S28), 0, 0⟩ : S30), (⟨8, 0, ([] : List (S48)), (⟨([] : List Int), ([] : List Int)⟩ : S26), (⟨0, 0, 0, 0⟩ : S28), 0, 5⟩ : S30), (⟨2, 0, y218, (⟨([] : List Int), ([] : List Int)⟩ : S26), (⟨0, 0, 0, 0⟩ : S28), 0, 0⟩ : S30)] : List (S30))) := ⟨_, rfl⟩
 replace H : ((script_Write.f k y221).bind fun bt224 => ((script_Read.f k bt224.1).bind fun bt228 => ((script_Write.f k (([(⟨0, 0, ([] : List (S48)), (⟨([] : List Int), ([] : List Int)⟩ : S26), (⟨0, 0, 0, 0⟩ : S28), 0, 0⟩ : S30)] : List (S30)))).bind fun bt235 => ((script_Read.f k (([4] : List Int))).bind fun bt242 => (if (strOfNums bt224.1).toList = ([4, 3, 6, 8, 5, 2, 0, 0, 4, 1, 1, 0, 0, 0] : List UInt8) then (if bt224.2 = 0 then ((fullerref23_Same.f k bt228.1 y221).bind fun t246 => (if t246 = true then (if bt228.2 = 0 then (if bt235.2 = 230 then (if bt242.2 = 230 then (if 0 < (y221.length : Int) then ((script_Check.f k ((rd_T30 y221 0).f0) ((rd_T30 y221 0).f1) ((rd_T30 y221 0).f2) ((rd_T30 y221 0).f3.f0) ((rd_T30 y221 0).f3.f1) ((rd_T30 y221 0).f4.f0) ((rd_T30 y221 0).f4.f1) ((rd_T30 y221 0).f4.f2) ((rd_T30 y221 0).f4.f3) ((rd_T30 y221 0).f5) ((rd_T30 y221 0).f6)).bind fun t248 => (if t248 = true then ((script_Check.f k 6 1 ([] : List (S48)) ([] : List Int) ([] : List Int) 0 0 0 0 0 0).bind fun t249 => (if t249 = true then (none) else (some true))) else (none))) else (none)) else (none)) else (none)) else (none)) else (none))) else (none)) else (none)))))) = some r := by first | (rw [hy221]; with_reducible exact H) | (have H2_ := (Option.bind_some _ _).symm.trans H; rw [hy221]; with_reducible exact H2_) | (have H2_ := (Option.bind_some _ _).symm.trans H; with_reducible exact H2_) | with_reducible exact H | (rw [hy221]; exact H) | exact H
 have Ny221 := Aside0.mk hy221
 clear hy221
 replace H := Option.bind_eq_some_iff.mp H
 obtain ⟨⟨t224, t225⟩, A10, H⟩ := H
 replace H : ((script_Read.f k t224).bind fun bt228 => ((script_Write.f k (([(⟨0, 0, ([] : List (S48)), (⟨([] : List Int), ([] : List Int)⟩ : S26), (⟨0, 0, 0, 0⟩ : S28), 0, 0⟩ : S30)] : List (S30)))).bind fun bt235 => ((script_Read.f k (([4] : List Int))).bind fun bt242 => (if (strOfNums t224).toList = ([4, 3, 6, 8, 5, 2, 0, 0, 4, 1, 1, 0, 0, 0] : List UInt8) then (if t225 = 0 then ((fullerref23_Same.f k bt228.1 y221).bind fun t246 => (if t246 = true then (if bt228.2 = 0 then (if bt235.2 = 230 then (if bt242.2 = 230 then (if 0 < (y221.length : Int) then ((script_Check.f k ((rd_T30 y221 0).f0) ((rd_T30 y221 0).f1) ((rd_T30 y221 0).f2) ((rd_T30 y221 0).f3.f0) ((rd_T30 y221 0).f3.f1) ((rd_T30 y221 0).f4.f0) ((rd_T30 y221 0).f4.f1) ((rd_T30 y221 0).f4.f2) ((rd_T30 y221 0).f4.f3) ((rd_T30 y221 0).f5) ((rd_T30 y221 0).f6)).bind fun t248 => (if t248 = true then ((script_Check.f k 6 1 ([] : List (S48)) ([] : List Int) ([] : List Int) 0 0 0 0 0 0).bind fun t249 => (if t249 = true then (none) else (some true))) else (none))) else (none)) else (none)) else (none)) else (none)) else (none))) else (none)) else (none))))) = some r := H
 have A1 := Aside0.mk A10
 clear A10
 replace H := Option.bind_eq_some_iff.mp H
 obtain ⟨⟨t228, t229⟩, A20, H⟩ := H
 replace H : ((script_Write.f k (([(⟨0, 0, ([] : List (S48)), (⟨([] : List Int), ([] : List Int)⟩ : S26), (⟨0, 0, 0, 0⟩ : S28), 0, 0⟩ : S30)] : List (S30)))).bind fun bt235 => ((script_Read.f k (([4] : List Int))).bind fun bt242 => (if (strOfNums t224).toList = ([4, 3, 6, 8, 5, 2, 0, 0, 4, 1, 1, 0, 0, 0] : List UInt8) then (if t225 = 0 then ((fullerref23_Same.f k t228 y221).bind fun t246 => (if t246 = true then (if t229 = 0 then (if bt235.2 = 230 then (if bt242.2 = 230 then (if 0 < (y221.length : Int) then ((script_Check.f k ((rd_T30 y221 0).f0) ((rd_T30 y221 0).f1) ((rd_T30 y221 0).f2) ((rd_T30 y221 0).f3.f0) ((rd_T30 y221 0).f3.f1) ((rd_T30 y221 0).f4.f0) ((rd_T30 y221 0).f4.f1) ((rd_T30 y221 0).f4.f2) ((rd_T30 y221 0).f4.f3) ((rd_T30 y221 0).f5) ((rd_T30 y221 0).f6)).bind fun t248 => (if t248 = true then ((script_Check.f k 6 1 ([] : List (S48)) ([] : List Int) ([] : List Int) 0 0 0 0 0 0).bind fun t249 => (if t249 = true then (none) else (some true))) else (none))) else (none)) else (none)) else (none)) else (none)) else (none))) else (none)) else (none)))) = some r := H
 have A2 := Aside0.mk A20
 clear A20
 obtain ⟨y232, hy232⟩ : ∃ y_ : List (S30), y_ = (([(⟨0, 0, ([] : List (S48)), (⟨([] : List Int), ([] : List Int)⟩ : S26), (⟨0, 0, 0, 0⟩ : S28), 0, 0⟩ : S30)] : List (S30))) := ⟨_, rfl⟩
 replace H : ((script_Write.f k y232).bind fun bt235 => ((script_Read.f k (([4] : List Int))).bind fun bt242 => (if (strOfNums t224).toList = ([4, 3, 6, 8, 5, 2, 0, 0, 4, 1, 1, 0, 0, 0] : List UInt8) then (if t225 = 0 then ((fullerref23_Same.f k t228 y221).bind fun t246 => (if t246 = true then (if t229 = 0 then (if bt235.2 = 230 then (if bt242.2 = 230 then (if 0 < (y221.length : Int) then ((script_Check.f k ((rd_T30 y221 0).f0) ((rd_T30 y221 0).f1) ((rd_T30 y221 0).f2) ((rd_T30 y221 0).f3.f0) ((rd_T30 y221 0).f3.f1) ((rd_T30 y221 0).f4.f0) ((rd_T30 y221 0).f4.f1) ((rd_T30 y221 0).f4.f2) ((rd_T30 y221 0).f4.f3) ((rd_T30 y221 0).f5) ((rd_T30 y221 0).f6)).bind fun t248 => (if t248 = true then ((script_Check.f k 6 1 ([] : List (S48)) ([] : List Int) ([] : List Int) 0 0 0 0 0 0).bind fun t249 => (if t249 = true then (none) else (some true))) else (none))) else (none)) else (none)) else (none)) else (none)) else (none))) else (none)) else (none)))) = some r := by first | (rw [hy232]; with_reducible exact H) | (have H2_ := (Option.bind_some _ _).symm.trans H; rw [hy232]; with_reducible exact H2_) | (have H2_ := (Option.bind_some _ _).symm.trans H; with_reducible exact H2_) | with_reducible exact H | (rw [hy232]; exact H) | exact H
 have Ny232 := Aside0.mk hy232
 clear hy232
 replace H := Option.bind_eq_some_iff.mp H
 obtain ⟨⟨t235, t236⟩, A30, H⟩ := H
 replace H : ((script_Read.f k (([4] : List Int))).bind fun bt242 => (if (strOfNums t224).toList = ([4, 3, 6, 8, 5, 2, 0, 0, 4, 1, 1, 0, 0, 0] : List UInt8) then (if t225 = 0 then ((fullerref23_Same.f k t228 y221).bind fun t246 => (if t246 = true then (if t229 = 0 then (if t236 = 230 then (if bt242.2 = 230 then (if 0 < (y221.length : Int) then ((script_Check.f k ((rd_T30 y221 0).f0) ((rd_T30 y221 0).f1) ((rd_T30 y221 0).f2) ((rd_T30 y221 0).f3.f0) ((rd_T30 y221 0).f3.f1) ((rd_T30 y221 0).f4.f0) ((rd_T30 y221 0).f4.f1) ((rd_T30 y221 0).f4.f2) ((rd_T30 y221 0).f4.f3) ((rd_T30 y221 0).f5) ((rd_T30 y221 0).f6)).bind fun t248 => (if t248 = true then ((script_Check.f k 6 1 ([] : List (S48)) ([] : List Int) ([] : List Int) 0 0 0 0 0 0).bind fun t249 => (if t249 = true then (none) else (some true))) else (none))) else (none)) else (none)) else (none)) else (none)) else (none))) else (none)) else (none))) = some r := H
 have A3 := Aside0.mk A30
 clear A30
 obtain ⟨y239, hy239⟩ : ∃ y_ : List Int, y_ = (([4] : List Int)) := ⟨_, rfl⟩
 replace H : ((script_Read.f k y239).bind fun bt242 => (if (strOfNums t224).toList = ([4, 3, 6, 8, 5, 2, 0, 0, 4, 1, 1, 0, 0, 0] : List UInt8) then (if t225 = 0 then ((fullerref23_Same.f k t228 y221).bind fun t246 => (if t246 = true then (if t229 = 0 then (if t236 = 230 then (if bt242.2 = 230 then (if 0 < (y221.length : Int) then ((script_Check.f k ((rd_T30 y221 0).f0) ((rd_T30 y221 0).f1) ((rd_T30 y221 0).f2) ((rd_T30 y221 0).f3.f0) ((rd_T30 y221 0).f3.f1) ((rd_T30 y221 0).f4.f0) ((rd_T30 y221 0).f4.f1) ((rd_T30 y221 0).f4.f2) ((rd_T30 y221 0).f4.f3) ((rd_T30 y221 0).f5) ((rd_T30 y221 0).f6)).bind fun t248 => (if t248 = true then ((script_Check.f k 6 1 ([] : List (S48)) ([] : List Int) ([] : List Int) 0 0 0 0 0 0).bind fun t249 => (if t249 = true then (none) else (some true))) else (none))) else (none)) else (none)) else (none)) else (none)) else (none))) else (none)) else (none))) = some r := by first | (rw [hy239]; with_reducible exact H) | (have H2_ := (Option.bind_some _ _).symm.trans H; rw [hy239]; with_reducible exact H2_) | (have H2_ := (Option.bind_some _ _).symm.trans H; with_reducible exact H2_) | with_reducible exact H | (rw [hy239]; exact H) | exact H
 have Ny239 := Aside0.mk hy239
 clear hy239
 replace H := Option.bind_eq_some_iff.mp H
 obtain ⟨⟨t242, t243⟩, A40, H⟩ := H
 replace H : (if (strOfNums t224).toList = ([4, 3, 6, 8, 5, 2, 0, 0, 4, 1, 1, 0, 0, 0] : List UInt8) then (if t225 = 0 then ((fullerref23_Same.f k t228 y221).bind fun t246 => (if t246 = true then (if t229 = 0 then (if t236 = 230 then (if t243 = 230 then (if 0 < (y221.length : Int) then ((script_Check.f k ((rd_T30 y221 0).f0) ((rd_T30 y221 0).f1) ((rd_T30 y221 0).f2) ((rd_T30 y221 0).f3.f0) ((rd_T30 y221 0).f3.f1) ((rd_T30 y221 0).f4.f0) ((rd_T30 y221 0).f4.f1) ((rd_T30 y221 0).f4.f2) ((rd_T30 y221 0).f4.f3) ((rd_T30 y221 0).f5) ((rd_T30 y221 0).f6)).bind fun t248 => (if t248 = true then ((script_Check.f k 6 1 ([] : List (S48)) ([] : List Int) ([] : List Int) 0 0 0 0 0 0).bind fun t249 => (if t249 = true then (none) else (some true))) else (none))) else (none)) else (none)) else (none)) else (none)) else (none))) else (none)) else (none)) = some r := H
 have A4 := Aside0.mk A40
 clear A40
 by_cases c5 : (strOfNums t224).toList = ([4, 3, 6, 8, 5, 2, 0, 0, 4, 1, 1, 0, 0, 0] : List UInt8)
 ·rw [if_pos c5] at H
  obtain ⟨c5b0, c5b1⟩ := (⟨beq_iff_eq.mpr c5, bne_eq_false_iff_eq.mpr c5⟩ : (_ == _) = true ∧ (_ != _) = false)
  clear c5
  by_cases c6 : t225 = 0
  ·rw [if_pos c6] at H
   obtain ⟨c6b0, c6b1⟩ := eqT_ c6
   clear c6
   replace H := Option.bind_eq_some_iff.mp H
   obtain ⟨t246, A70, H⟩ := H
   replace H : (if t246 = true then (if t229 = 0 then (if t236 = 230 then (if t243 = 230 then (if 0 < (y221.length : Int) then ((script_Check.f k ((rd_T30 y221 0).f0) ((rd_T30 y221 0).f1) ((rd_T30 y221 0).f2) ((rd_T30 y221 0).f3.f0) ((rd_T30 y221 0).f3.f1) ((rd_T30 y221 0).f4.f0) ((rd_T30 y221 0).f4.f1) ((rd_T30 y221 0).f4.f2) ((rd_T30 y221 0).f4.f3) ((rd_T30 y221 0).f5) ((rd_T30 y221 0).f6)).bind fun t248 => (if t248 = true then ((script_Check.f k 6 1 ([] : List (S48)) ([] : List Int) ([] : List Int) 0 0 0 0 0 0).bind fun t249 => (if t249 = true then (none) else (some true))) else (none))) else (none)) else (none)) else (none)) else (none)) else (none)) = some r := H
   have A7 := Aside0.mk A70
   clear A70
   by_cases c8 : t246 = true
   ·subst c8
    have H1 : (if t229 = 0 then (if t236 = 230 then (if t243 = 230 then (if 0 < (y221.length : Int) then ((script_Check.f k ((rd_T30 y221 0).f0) ((rd_T30 y221 0).f1) ((rd_T30 y221 0).f2) ((rd_T30 y221 0).f3.f0) ((rd_T30 y221 0).f3.f1) ((rd_T30 y221 0).f4.f0) ((rd_T30 y221 0).f4.f1) ((rd_T30 y221 0).f4.f2) ((rd_T30 y221 0).f4.f3) ((rd_T30 y221 0).f5) ((rd_T30 y221 0).f6)).bind fun t248 => (if t248 = true then ((script_Check.f k 6 1 ([] : List (S48)) ([] : List Int) ([] : List Int) 0 0 0 0 0 0).bind fun t249 => (if t249 = true then (none) else (some true))) else (none))) else (none)) else (none)) else (none)) else (none)) = some r := by rw [if_pos rfl] at H; exact H
    clear H
    have H := H1
    clear H1
    by_cases c9 : t229 = 0
    ·rw [if_pos c9] at H
     obtain ⟨c9b0, c9b1⟩ := eqT_ c9
     clear c9
     by_cases c10 : t236 = 230
     ·rw [if_pos c10] at H
      obtain ⟨c10b0, c10b1⟩ := eqT_ c10
      clear c10
      by_cases c11 : t243 = 230
      ·rw [if_pos c11] at H
       obtain ⟨c11b0, c11b1⟩ := eqT_ c11
       clear c11
       by_cases c12 : 0 < (y221.length : Int)
       ·rw [if_pos c12] at H
        have c12b0 : decide (0 < (y221.length : Int)) = true := decide_eq_true c12
        have c12b1 : decide (0 < y221.length) = true := decide_eq_true (by omega)
        clear c12
        replace H := Option.bind_eq_some_iff.mp H
        obtain ⟨t248, A130, H⟩ := H
        replace H : (if t248 = true then ((script_Check.f k 6 1 ([] : List (S48)) ([] : List Int) ([] : List Int) 0 0 0 0 0 0).bind fun t249 => (if t249 = true then (none) else (some true))) else (none)) = some r := H
        have A13 := Aside0.mk A130
        clear A130
        by_cases c14 : t248 = true
        ·subst c14
         have H1 : ((script_Check.f k 6 1 ([] : List (S48)) ([] : List Int) ([] : List Int) 0 0 0 0 0 0).bind fun t249 => (if t249 = true then (none) else (some true))) = some r := by rw [if_pos rfl] at H; exact H
         clear H
         have H := H1
         clear H1
         replace H := Option.bind_eq_some_iff.mp H
         obtain ⟨t249, A150, H⟩ := H
         replace H : (if t249 = true then (none) else (some true)) = some r := H
         have A15 := Aside0.mk A150
         clear A150
         by_cases c16 : t249 = true
         ·subst c16
          have H1 : (none) = some r := by rw [if_pos rfl] at H; exact H
          clear H
          have H := H1
          clear H1
          exact absurd H (by simp)
         ·replace c16 := Bool.eq_false_iff.mpr c16
          subst c16
          have H1 : (some true) = some r := by rw [if_neg (show ¬ (false = true) by decide)] at H; exact H
          clear H
          have H := H1
          clear H1
          obtain rfl := Option.some.inj H
          go_enter Try.func8, Try.ntmps8
          go_wp2_with (first | ((with_reducible refine gate_dst (N := 14) rfl ?_); refine Kd.N_lit k48 _ 48 ?hg (N' := 14) ?hd (xs := ([(⟨1, ([] : List Int), ([] : List Int)⟩ : S48)] : List (S48))) (inner := [.int .i64 1, .slice none 0 0, .slice none 0 0]) (ok := (fun _ => True)) (okp := (fun _ => True)) ?hr ?hp (fun _ hk => hk) ((show ∀ k_, w.heap.size ≤ k_ → (fun _ => True) k_ from fun k_ hk => trivial) _ (Nat.le_refl _)) (Below.refl _ _) (Nat.le_refl _) (by simp) ?_; (case hd => rfl); (case hg => rfl); (case hr => first | (go_simp; done) | (go_simp; rfl)); (case hp => exact (Reps.c3 (show Kd.FK k48 _ _ (⟨1, ([] : List Int), ([] : List Int)⟩ : S48) [.int .i64 1, .slice none 0 0, .slice none 0 0] from (k48_mkF _ _ (⟨1, ([] : List Int), ([] : List Int)⟩ : S48) (Nat.le_refl _) (Kd.F_nil _ _ _) (Nat.le_refl _) (Kd.F_nil _ _ _))) (Reps.none _ _))); intro v219 w17 ho18 hb hg_ hnew_; clear hg_ hnew_; (first | rw [← Ny218.out] at ho18 | (simp only [Int.reduceToNat] at ho18; rw [← Ny218.out] at ho18)); have HO220 := Aside0.mk (Kd.N_lower ho18 (below_size (bq0_ HB.out))); replace HB := Aside0.mk (below_step (bq0_ HB.out) hb); clear hb ho18; obtain ⟨Ao19, co19, eo19⟩ := Kd.N_slice HO220.out; subst eo19) | ((with_reducible refine gate_dst (N := 16) rfl ?_); refine Kd.N_lit k30 _ 30 ?hg (N' := 16) ?hd (xs := ([(⟨4, 3, ([] : List (S48)), (⟨([] : List Int), ([] : List Int)⟩ : S26), (⟨0, 0, 0, 0⟩ : S28), 0, 0⟩ : S30), (⟨6, 0, ([] : List (S48)), (⟨([] : List Int), ([] : List Int)⟩ : S26), (⟨0, 0, 0, 0⟩ : S28), 0, 0⟩ : S30), (⟨8, 0, ([] : List (S48)), (⟨([] : List Int), ([] : List Int)⟩ : S26), (⟨0, 0, 0, 0⟩ : S28), 0, 5⟩ : S30), (⟨2, 0, y218, (⟨([] : List Int), ([] : List Int)⟩ : S26), (⟨0, 0, 0, 0⟩ : S28), 0, 0⟩ : S30)] : List (S30))) (inner := [.int .i64 4, .int .i64 3, .slice none 0 0, .slice none 0 0, .slice none 0 0, .int .i64 0, .int .i64 0, .int .i64 0, .int .i64 0, .int .i64 0, .int .i64 0, .int .i64 6, .int .i64 0, .slice none 0 0, .slice none 0 0, .slice none 0 0, .int .i64 0, .int .i64 0, .int .i64 0, .int .i64 0, .int .i64 0, .int .i64 0, .int .i64 8, .int .i64 0, .slice none 0 0, .slice none 0 0, .slice none 0 0, .int .i64 0, .int .i64 0, .int .i64 0, .int .i64 0, .int .i64 0, .int .i64 5, .int .i64 2, .int .i64 0, .slice Ao19 y218.length co19, .slice none 0 0, .slice none 0 0, .int .i64 0, .int .i64 0, .int .i64 0, .int .i64 0, .int .i64 0, .int .i64 0]) (ok := (fun _ => True)) (okp := (fun _ => True)) ?hr ?hp (fun _ hk => hk) ((show ∀ k_, w17.heap.size ≤ k_ → (fun _ => True) k_ from fun k_ hk => trivial) _ (Nat.le_refl _)) (Below.refl _ _) (Nat.le_refl _) (by simp) ?_; (case hd => rfl); (case hg => rfl); (case hr => first | (go_simp; done) | (go_simp; rfl)); (case hp => exact (Reps.front (show Kd.FK k30 _ _ (⟨4, 3, ([] : List (S48)), (⟨([] : List Int), ([] : List Int)⟩ : S26), (⟨0, 0, 0, 0⟩ : S28), 0, 0⟩ : S30) [.int .i64 4, .int .i64 3, .slice none 0 0, .slice none 0 0, .slice none 0 0, .int .i64 0, .int .i64 0, .int .i64 0, .int .i64 0, .int .i64 0, .int .i64 0] from (k30_mkF _ _ (⟨4, 3, ([] : List (S48)), (⟨([] : List Int), ([] : List Int)⟩ : S26), (⟨0, 0, 0, 0⟩ : S28), 0, 0⟩ : S30) (Nat.le_refl _) (Kd.F_nil _ _ _) (Nat.le_refl _) (Kd.F_nil _ _ _) (Nat.le_refl _) (Kd.F_nil _ _ _))) rfl (Reps.front (show Kd.FK k30 _ _ (⟨6, 0, ([] : List (S48)), (⟨([] : List Int), ([] : List Int)⟩ : S26), (⟨0, 0, 0, 0⟩ : S28), 0, 0⟩ : S30) [.int .i64 6, .int .i64 0, .slice none 0 0, .slice none 0 0, .slice none 0 0, .int .i64 0, .int .i64 0, .int .i64 0, .int .i64 0, .int .i64 0, .int .i64 0] from (k30_mkF _ _ (⟨6, 0, ([] : List (S48)), (⟨([] : List Int), ([] : List Int)⟩ : S26), (⟨0, 0, 0, 0⟩ : S28), 0, 0⟩ : S30) (Nat.le_refl _) (Kd.F_nil _ _ _) (Nat.le_refl _) (Kd.F_nil _ _ _) (Nat.le_refl _) (Kd.F_nil _ _ _))) rfl (Reps.front (show Kd.FK k30 _ _ (⟨8, 0, ([] : List (S48)), (⟨([] : List Int), ([] : List Int)⟩ : S26), (⟨0, 0, 0, 0⟩ : S28), 0, 5⟩ : S30) [.int .i64 8, .int .i64 0, .slice none 0 0, .slice none 0 0, .slice none 0 0, .int .i64 0, .int .i64 0, .int .i64 0, .int .i64 0, .int .i64 0, .int .i64 5] from (k30_mkF _ _ (⟨8, 0, ([] : List (S48)), (⟨([] : List Int), ([] : List Int)⟩ : S26), (⟨0, 0, 0, 0⟩ : S28), 0, 5⟩ : S30) (Nat.le_refl _) (Kd.F_nil _ _ _) (Nat.le_refl _) (Kd.F_nil _ _ _) (Nat.le_refl _) (Kd.F_nil _ _ _))) rfl (Reps.front (show Kd.FK k30 _ _ (⟨2, 0, y218, (⟨([] : List Int), ([] : List Int)⟩ : S26), (⟨0, 0, 0, 0⟩ : S28), 0, 0⟩ : S30) [.int .i64 2, .int .i64 0, .slice Ao19 y218.length co19, .slice none 0 0, .slice none 0 0, .int .i64 0, .int .i64 0, .int .i64 0, .int .i64 0, .int .i64 0, .int .i64 0] from (k30_mkF _ _ (⟨2, 0, y218, (⟨([] : List Int), ([] : List Int)⟩ : S26), (⟨0, 0, 0, 0⟩ : S28), 0, 0⟩ : S30) (Kd.N_reads' (Kd.N_mono (ok' := (fun _ => True)) (HO220.out) (fun k_ hk => trivial))).2.1 (Kd.N_F (Kd.N_mono (ok' := (fun _ => True)) (HO220.out) (fun k_ hk => trivial))) (Nat.le_refl _) (Kd.F_nil _ _ _) (Nat.le_refl _) (Kd.F_nil _ _ _))) rfl (Reps.none _ _) rfl) rfl) rfl) rfl)); intro v222 w20 ho21 hb hg_ hnew_; clear hg_ hnew_; (first | rw [← Ny221.out] at ho21 | (simp only [Int.reduceToNat] at ho21; rw [← Ny221.out] at ho21)); have HO223 := Aside0.mk (Kd.N_lower ho21 (below_size (bq0_ HB.out))); replace HB := Aside0.mk (below_step (bq0_ HB.out) hb); clear HO220 hb ho21; obtain ⟨Ao22, co22, eo22⟩ := Kd.N_slice HO223.out; subst eo22) | ((with_reducible refine gate_callee (f := 10) rfl ?_); refine gL_ (some 19) Try.func10 #[.slice Ao22 y221.length co22] ?_; (with_reducible refine (script_Write.calls k _ _ y221 t224 t225 _ ?side1 ?side2 A1.out).mono ?_); (case side1 => exact mvC_ ((Kd.N_reads' HO223.out).2.2)); (case side2 => exact (Kd.N_reads' HO223.out).2.1); rintro e w23 ⟨v226, rfl, ho0, hb⟩; refine ⟨_, rfl, ?_⟩; have HO227 := Aside0.mk (Kd.R_lower ho0 (below_size (bq0_ HB.out))); replace HO223 := mbN_ HO223.out hb; replace HB := Aside0.mk (below_step (bq0_ HB.out) hb); (try clear hb); (try clear ho0); obtain ⟨Ao24, co24, eo24⟩ := Kd.R_slice HO227.out; subst eo24) | ((with_reducible refine gate_callee (f := 12) rfl ?_); refine gL_ (some 24) Try.func12 #[.slice Ao24 t224.length co24] ?_; (with_reducible refine (script_Read.calls k _ _ t224 t228 t229 _ ?side1 ?side2 A2.out).mono ?_); (case side1 => exact mvC_ ((Kd.R_reads' HO227.out).2.2)); (case side2 => exact (Kd.R_reads' HO227.out).2.1); rintro e w25 ⟨v230, rfl, ho0, hb⟩; refine ⟨_, rfl, ?_⟩; have HO231 := Aside0.mk (Kd.N_lower (Kd.N_mono (ok' := fun k_ => True) (Kd.R_N (Kd.R_bound ho0)) (fun k_ hk_ => trivial)) (below_size (bq0_ HB.out))); replace HO223 := mbN_ HO223.out hb; replace HO227 := mbR_ HO227.out hb; replace HB := Aside0.mk (below_step (bq0_ HB.out) hb); (try clear hb); (try clear ho0)) | ((with_reducible refine gate_dst (N := 29) rfl ?_); refine Kd.N_lit k30 _ 30 ?hg (N' := 29) ?hd (xs := ([(⟨0, 0, ([] : List (S48)), (⟨([] : List Int), ([] : List Int)⟩ : S26), (⟨0, 0, 0, 0⟩ : S28), 0, 0⟩ : S30)] : List (S30))) (inner := [.int .i64 0, .int .i64 0, .slice none 0 0, .slice none 0 0, .slice none 0 0, .int .i64 0, .int .i64 0, .int .i64 0, .int .i64 0, .int .i64 0, .int .i64 0]) (ok := (fun _ => True)) (okp := (fun _ => True)) ?hr ?hp (fun _ hk => hk) ((show ∀ k_, w25.heap.size ≤ k_ → (fun _ => True) k_ from fun k_ hk => trivial) _ (Nat.le_refl _)) (Below.refl _ _) (Nat.le_refl _) (by simp) ?_; (case hd => rfl); (case hg => rfl); (case hr => first | (go_simp; done) | (go_simp; rfl)); (case hp => exact (Reps.front (show Kd.FK k30 _ _ (⟨0, 0, ([] : List (S48)), (⟨([] : List Int), ([] : List Int)⟩ : S26), (⟨0, 0, 0, 0⟩ : S28), 0, 0⟩ : S30) [.int .i64 0, .int .i64 0, .slice none 0 0, .slice none 0 0, .slice none 0 0, .int .i64 0, .int .i64 0, .int .i64 0, .int .i64 0, .int .i64 0, .int .i64 0] from (k30_mkF _ _ (⟨0, 0, ([] : List (S48)), (⟨([] : List Int), ([] : List Int)⟩ : S26), (⟨0, 0, 0, 0⟩ : S28), 0, 0⟩ : S30) (Nat.le_refl _) (Kd.F_nil _ _ _) (Nat.le_refl _) (Kd.F_nil _ _ _) (Nat.le_refl _) (Kd.F_nil _ _ _))) rfl (Reps.none _ _) rfl)); intro v233 w26 ho27 hb hg_ hnew_; clear hg_ hnew_; (first | rw [← Ny232.out] at ho27 | (simp only [Int.reduceToNat] at ho27; rw [← Ny232.out] at ho27)); have HO234 := Aside0.mk (Kd.N_lower ho27 (below_size (bq0_ HB.out))); replace HO223 := mbN_ HO223.out hb; replace HO227 := mbR_ HO227.out hb; replace HO231 := mbN_ HO231.out hb; replace HB := Aside0.mk (below_step (bq0_ HB.out) hb); clear hb ho27; obtain ⟨Ao28, co28, eo28⟩ := Kd.N_slice HO234.out; subst eo28) | ((with_reducible refine gate_callee (f := 10) rfl ?_); refine gL_ (some 30) Try.func10 #[.slice Ao28 y232.length co28] ?_; (with_reducible refine (script_Write.calls k _ _ y232 t235 t236 _ ?side1 ?side2 A3.out).mono ?_); (case side1 => exact mvC_ ((Kd.N_reads' HO234.out).2.2)); (case side2 => exact (Kd.N_reads' HO234.out).2.1); rintro e w29 ⟨v237, rfl, ho0, hb⟩; refine ⟨_, rfl, ?_⟩; have HO238 := Aside0.mk (Kd.R_lower ho0 (below_size (bq0_ HB.out))); replace HO223 := mbN_ HO223.out hb; replace HO227 := mbR_ HO227.out hb; replace HO231 := mbN_ HO231.out hb; replace HO234 := mbN_ HO234.out hb; replace HB := Aside0.mk (below_step (bq0_ HB.out) hb); (try clear hb); (try clear ho0)) | ((with_reducible refine gate_dst (N := 34) rfl ?_); refine Kd.R_lit (Kd.int .u8) _ 5 ?hg (N := 34) ?hd (xs := ([4] : List Int)) (inner := [.int .u8 4]) (ok := fun _ => True) (okp := fun _ => True) ?hr ?hp (fun _ hk => hk) trivial (Below.refl _ _) (Nat.le_refl _) (by simp) ?_; (case hd => rfl); (case hg => rfl); (case hr => first | (go_simp; done) | (go_simp; rfl)); (case hp => exact (Reps.one (show Kd.M (Kd.int .u8) _ _ _ 4 [.int .u8 4] from rfl) (Reps.none _ _))); intro v240 w30 ho31 hb hg_ hnew_; clear hg_ hnew_; (first | rw [← Ny239.out] at ho31 | (simp only [Int.reduceToNat] at ho31; rw [← Ny239.out] at ho31)); have HO241 := Aside0.mk (Kd.R_lower ho31 (below_size (bq0_ HB.out))); replace HO223 := mbN_ HO223.out hb; replace HO227 := mbR_ HO227.out hb; replace HO231 := mbN_ HO231.out hb; replace HB := Aside0.mk (below_step (bq0_ HB.out) hb); clear hb ho31; obtain ⟨Ao32, co32, eo32⟩ := Kd.R_slice HO241.out; subst eo32) | ((with_reducible refine gate_callee (f := 12) rfl ?_); refine gL_ (some 35) Try.func12 #[.slice Ao32 y239.length co32] ?_; (with_reducible refine (script_Read.calls k _ _ y239 t242 t243 _ ?side1 ?side2 A4.out).mono ?_); (case side1 => exact mvC_ ((Kd.R_reads' HO241.out).2.2)); (case side2 => exact (Kd.R_reads' HO241.out).2.1); rintro e w33 ⟨v244, rfl, ho0, hb⟩; refine ⟨_, rfl, ?_⟩; have HO245 := Aside0.mk (Kd.N_lower (Kd.N_mono (ok' := fun k_ => True) (Kd.R_N (Kd.R_bound ho0)) (fun k_ hk_ => trivial)) (below_size (bq0_ HB.out))); replace HO223 := mbN_ HO223.out hb; replace HO227 := mbR_ HO227.out hb; replace HO231 := mbN_ HO231.out hb; replace HO241 := mbR_ HO241.out hb; replace HB := Aside0.mk (below_step (bq0_ HB.out) hb); (try clear hb); (try clear ho0); have hcv34 := own_string (P := Try.prog) Try.underlying31 Try.underlying5 Try.underlying9 (Kd.own_of_R HO227.out); obtain ⟨Ao35, co35, eo35⟩ := Kd.N_slice HO231.out; subst eo35) | (go_at_call 14; (with_reducible refine (fullerref23_Same.calls k _ _ t228 _ _ y221 true _ ?side1 ?side2 ?side3 ?side4 A7.out).mono ?_); (case side1 => exact mvC_ ((Kd.N_reads' HO231.out).2.2)); (case side2 => exact (Kd.N_reads' HO231.out).2.1); (case side3 => exact mvC_ ((Kd.N_reads' HO223.out).2.2)); (case side4 => exact (Kd.N_reads' HO223.out).2.1); rintro e w36 ⟨rfl, hb⟩; replace HO223 := mbN_ HO223.out hb; replace HO231 := mbN_ HO231.out hb; replace HB := Aside0.mk (below_step (bq0_ HB.out) hb); (try clear hb); have p247 : 0 ≤ (0 : Int) := (by omega); have q247 : 0 < (y221.length : Int) := od_; obtain ⟨ad247, A247_2, c247_2, A247_3, c247_3, A247_4, c247_4, e247, hx247_0, hx247_1, hx247_2, hx247_3, hx247_4, hx247_5, hx247_6, hx247_7, hx247_8, hx247_9, hx247_10, hl247_2, hi247_2, hl247_3, hi247_3, hl247_4, hi247_4⟩ := at_T30 (Kd.N_reads' HO223.out).2.2 0 p247 q247; cases e247; obtain ⟨ce247, hce247, hMe247, hcc247⟩ := Kd.N_get HO223.out z30 0 p247 (by first | exact q247 | exact od_ | (have e_ := (Kd.N_reads' HO223.out).1; omega)); obtain ⟨ua247_2, uc247_2, ua247_3, uc247_3, ua247_4, uc247_4, rfl, ul247_2, ge247_2, ul247_3, ge247_3, ul247_4, ge247_4⟩ := k30_openF hMe247; have hv247_2 := hcc247 2 _ rfl; rw [add_field _ _ 2 (by omega)] at hv247_2; replace hv247_2 := Option.some.inj (hv247_2.symm.trans hx247_2); injection hv247_2 with hva_ hvn_ hvc_; rw [hva_] at ge247_2; rw [hvc_] at ul247_2; have HL247_2 := Aside0.mk (show Kd.V k48 48 _ w.heap.size _ _ ((rd_T30 y221 0).f2) from Kd.V_mk ul247_2 ge247_2); clear hva_ hvn_ hvc_ ge247_2 ul247_2; have hv247_3 := hcc247 3 _ rfl; rw [add_field _ _ 3 (by omega)] at hv247_3; replace hv247_3 := Option.some.inj (hv247_3.symm.trans hx247_3); injection hv247_3 with hva_ hvn_ hvc_; rw [hva_] at ge247_3; rw [hvc_] at ul247_3; have HL247_3 := Aside0.mk (show Kd.V (Kd.int .i64) 3 _ w.heap.size _ _ ((rd_T30 y221 0).f3.f0) from Kd.V_mk ul247_3 ge247_3); clear hva_ hvn_ hvc_ ge247_3 ul247_3; have hv247_4 := hcc247 4 _ rfl; rw [add_field _ _ 4 (by omega)] at hv247_4; replace hv247_4 := Option.some.inj (hv247_4.symm.trans hx247_4); injection hv247_4 with hva_ hvn_ hvc_; rw [hva_] at ge247_4; rw [hvc_] at ul247_4; have HL247_4 := Aside0.mk (show Kd.V (Kd.int .i64) 3 _ w.heap.size _ _ ((rd_T30 y221 0).f3.f1) from Kd.V_mk ul247_4 ge247_4); clear hva_ hvn_ hvc_ ge247_4 ul247_4; clear hcc247 hce247; have qi247 : (0 < y221.length) = True := eq_true (by omega); (try rw [show ((0 : Int)).toNat = 0 from rfl] at hx247_0); (try rw [show 0 * 11 = 0 from rfl] at hx247_0); (try rw [Addr.add_zero'] at hx247_0); (try rw [show ((0 : Int)).toNat = 0 from rfl] at hx247_1); (try rw [show 0 * 11 = 0 from rfl] at hx247_1); (try rw [Addr.add_zero'] at hx247_1); (try rw [show ((0 : Int)).toNat = 0 from rfl] at hx247_2); (try rw [show 0 * 11 = 0 from rfl] at hx247_2); (try rw [Addr.add_zero'] at hx247_2); (try rw [show ((0 : Int)).toNat = 0 from rfl] at hx247_3); (try rw [show 0 * 11 = 0 from rfl] at hx247_3); (try rw [Addr.add_zero'] at hx247_3); (try rw [show ((0 : Int)).toNat = 0 from rfl] at hx247_4); (try rw [show 0 * 11 = 0 from rfl] at hx247_4); (try rw [Addr.add_zero'] at hx247_4); (try rw [show ((0 : Int)).toNat = 0 from rfl] at hx247_5); (try rw [show 0 * 11 = 0 from rfl] at hx247_5); (try rw [Addr.add_zero'] at hx247_5); (try rw [show ((0 : Int)).toNat = 0 from rfl] at hx247_6); (try rw [show 0 * 11 = 0 from rfl] at hx247_6); (try rw [Addr.add_zero'] at hx247_6); (try rw [show ((0 : Int)).toNat = 0 from rfl] at hx247_7); (try rw [show 0 * 11 = 0 from rfl] at hx247_7); (try rw [Addr.add_zero'] at hx247_7); (try rw [show ((0 : Int)).toNat = 0 from rfl] at hx247_8); (try rw [show 0 * 11 = 0 from rfl] at hx247_8); (try rw [Addr.add_zero'] at hx247_8); (try rw [show ((0 : Int)).toNat = 0 from rfl] at hx247_9); (try rw [show 0 * 11 = 0 from rfl] at hx247_9); (try rw [Addr.add_zero'] at hx247_9); (try rw [show ((0 : Int)).toNat = 0 from rfl] at hx247_10); (try rw [show 0 * 11 = 0 from rfl] at hx247_10); (try rw [Addr.add_zero'] at hx247_10); have HR247_2 := Aside0.mk hi247_2; have HC247_2 := Aside0.mk hl247_2; clear hi247_2 hl247_2; have HR247_3 := Aside0.mk hi247_3; have HC247_3 := Aside0.mk hl247_3; clear hi247_3 hl247_3; have HR247_4 := Aside0.mk hi247_4; have HC247_4 := Aside0.mk hl247_4; clear hi247_4 hl247_4; replace p247 := eq_true p247; replace q247 := eq_true q247) | (go_at_call 15; (with_reducible refine (script_Check.calls k ((rd_T30 y221 0).f0) ((rd_T30 y221 0).f1) _ _ ((rd_T30 y221 0).f2) _ _ ((rd_T30 y221 0).f3.f0) _ _ ((rd_T30 y221 0).f3.f1) ((rd_T30 y221 0).f4.f0) ((rd_T30 y221 0).f4.f1) ((rd_T30 y221 0).f4.f2) ((rd_T30 y221 0).f4.f3) ((rd_T30 y221 0).f5) ((rd_T30 y221 0).f6) true _ ?side1 ?side2 ?side3 ?side4 ?side5 ?side6 A13.out).mono ?_); (case side1 => repeat (first | exact (by repeat (first | (with_reducible exact HR247_2.out) | (with_reducible refine Kd.C_alloc ?_ _) | (with_reducible refine Kd.C_drewN ?_ _) | (with_reducible refine Kd.C_drew ?_) | exact HR247_2.out)) | (with_reducible refine Kd.C_alloc ?_ _) | (with_reducible refine Kd.C_drewN ?_ _) | (with_reducible refine Kd.C_drew ?_))); (case side2 => exact HC247_2.out); (case side3 => repeat (first | exact (by repeat (first | (with_reducible exact HR247_3.out) | (with_reducible refine Kd.C_alloc ?_ _) | (with_reducible refine Kd.C_drewN ?_ _) | (with_reducible refine Kd.C_drew ?_) | exact HR247_3.out)) | (with_reducible refine Kd.C_alloc ?_ _) | (with_reducible refine Kd.C_drewN ?_ _) | (with_reducible refine Kd.C_drew ?_))); (case side4 => exact HC247_3.out); (case side5 => repeat (first | exact (by repeat (first | (with_reducible exact HR247_4.out) | (with_reducible refine Kd.C_alloc ?_ _) | (with_reducible refine Kd.C_drewN ?_ _) | (with_reducible refine Kd.C_drew ?_) | exact HR247_4.out)) | (with_reducible refine Kd.C_alloc ?_ _) | (with_reducible refine Kd.C_drewN ?_ _) | (with_reducible refine Kd.C_drew ?_))); (case side6 => exact HC247_4.out); rintro e w37 ⟨rfl, hb⟩; replace HL247_2 := mbV_ HL247_2.out hb; replace HL247_3 := mbV_ HL247_3.out hb; replace HL247_4 := mbV_ HL247_4.out hb; replace HR247_2 := Aside0.mk (Kd.C_below (mvC_ HR247_2.out) hb); replace HR247_3 := Aside0.mk (Kd.C_below (mvC_ HR247_3.out) hb); replace HR247_4 := Aside0.mk (Kd.C_below (mvC_ HR247_4.out) hb); replace HB := Aside0.mk (below_step (bq0_ HB.out) hb); (try clear hb)) | (go_at_call 15; (refine (script_Check.calls k 6 1 _ _ ([] : List (S48)) _ _ ([] : List Int) _ _ ([] : List Int) 0 0 0 0 0 0 false _ ?side1 ?side2 ?side3 ?side4 ?side5 ?side6 A15.out).mono ?_); (case side1 => exact Kd.C_nil _ _); (case side2 => exact Nat.le_refl _); (case side3 => exact Kd.C_nil _ _); (case side4 => exact Nat.le_refl _); (case side5 => exact Kd.C_nil _ _); (case side6 => exact Nat.le_refl _); rintro e w38 ⟨rfl, hb⟩; replace HR247_2 := Aside0.mk (Kd.C_below (mvC_ HR247_2.out) hb); replace HR247_3 := Aside0.mk (Kd.C_below (mvC_ HR247_3.out) hb); replace HR247_4 := Aside0.mk (Kd.C_below (mvC_ HR247_4.out) hb); replace HB := Aside0.mk (below_step (bq0_ HB.out) hb); (try clear hb)))
          go_ret
          exact ⟨by first | rfl | (simp <;> rfl) | (simp [*] <;> rfl), bq0_ HB.out⟩
        ·replace c14 := Bool.eq_false_iff.mpr c14
         subst c14
         have H1 : (none) = some r := by rw [if_neg (show ¬ (false = true) by decide)] at H; exact H
         clear H
         have H := H1
         clear H1
         exact absurd H (by simp)
       ·rw [if_neg c12] at H
        exact absurd H (by simp)
      ·rw [if_neg c11] at H
       exact absurd H (by simp)
     ·rw [if_neg c10] at H
      exact absurd H (by simp)
    ·rw [if_neg c9] at H
     exact absurd H (by simp)
   ·replace c8 := Bool.eq_false_iff.mpr c8
    subst c8
    have H1 : (none) = some r := by rw [if_neg (show ¬ (false = true) by decide)] at H; exact H
    clear H
    have H := H1
    clear H1
    exact absurd H (by simp)
  ·rw [if_neg c6] at H
   exact absurd H (by simp)
 ·rw [if_neg c5] at H
  exact absurd H (by simp)
def fullerref10_Few.l0 : Nat → List (S48) → Int → Option (Bool)
  | 0, _, _ => none
  | k + 1, x0, x3 => if x3 < (x0.length : Int) then (if 0 ≤ x3 then (if (((rd_T48 x0 x3).f1).length : Int) > 30 then (some false) else (if (((rd_T48 x0 x3).f2).length : Int) > 30 then (some false) else (fullerref10_Few.l0 k x0 (wrap64 (x3 + 1))))) else (none)) else (some (decide ((x0.length : Int) ≤ 30)))
def fullerref10_Few.f (k : Nat) (l0 : List (S48)) : Option (Bool) := fullerref10_Few.l0 k l0 0
set_option maxHeartbeats 8000000 in
set_option maxRecDepth 100000 in
theorem fullerref10_Few.calls (k : Nat) (A0 : Option Addr) (c0 : Nat) (l0 : List (S48)) (r : Bool) (w : World) (hr0 : Kd.C k48 w A0 l0.length l0) (hc0 : l0.length ≤ c0) (h : fullerref10_Few.f k l0 = some r) :
    Calls Try.prog 19 #[.slice A0 l0.length c0] w fun e w' => e = .returned (.bool r) ∧ Drawn0 w w' := by
  have HR0 := Aside0.mk hr0
  have HC0 := Aside0.mk hc0
  clear hr0 hc0
  have H : (fullerref10_Few.l0 k l0 0) = some r := h
  clear h
  have H' := Aside0.mk H
  clear H
  go_enter Try.func19, Try.ntmps19
  go_wp2
  go_loopg [3] k (fun kq v3 w' => ∃ (x3_1 : Int), v3 = .int .i64 x3_1 ∧ Aside0 (fullerref10_Few.l0 kq l0 x3_1 = some r) ∧ Aside0 (kq ≤ k) ∧ Drawn0 w w')
  case atStart => exact ⟨(0), (by first | rfl | (simp; done) | (simp [*]; done)), H', ⟨Nat.le_refl _⟩, by repeat (first | exact Drawn0.refl _ | apply Drawn0.step)⟩
  case round =>
    clear H'
    try clear c1
    obtain ⟨x3_1, rfl, HA, HK1, ⟨m1, rfl⟩⟩ := hrel
    cases gk with
    | zero => exact absurd HA.out (by simp [fullerref10_Few.l0])
    | succ k1 =>
      have H := HA.out
      clear HA
      simp only [fullerref10_Few.l0] at H
      by_cases c2 : x3_1 < (l0.length : Int)
      · rw [if_pos c2] at H
        have c2b0 : decide (x3_1 < (l0.length : Int)) = true := decide_eq_true c2
        clear c2
        by_cases c3 : 0 ≤ x3_1
        · rw [if_pos c3] at H
          have c3b0 : decide (0 ≤ x3_1) = true := decide_eq_true c3
          clear c3
          by_cases c4 : (((rd_T48 l0 x3_1).f1).length : Int) > 30
          · rw [if_pos c4] at H
            have c4b0 : decide (30 < (((rd_T48 l0 x3_1).f1).length : Int)) = true := decide_eq_true c4
            have c4b1 : decide (30 < ((rd_T48 l0 x3_1).f1).length) = true := decide_eq_true (by omega)
            clear c4
            obtain rfl := Option.some.inj H
            have p250 : 0 ≤ (x3_1 : Int) := of_decide_eq_true (by first | (with_reducible assumption) | assumption)
            have q250 : x3_1 < (l0.length : Int) := of_decide_eq_true (by first | (with_reducible assumption) | assumption)
            obtain ⟨ad250, A250_1, c250_1, A250_2, c250_2, e250, hx250_0, hx250_1, hx250_2, hl250_1, hi250_1, hl250_2, hi250_2⟩ := at_T48 HR0.out x3_1 p250 q250
            cases e250
            have HR250_1 := Aside0.mk hi250_1
            have HC250_1 := Aside0.mk hl250_1
            clear hi250_1 hl250_1
            have HR250_2 := Aside0.mk hi250_2
            have HC250_2 := Aside0.mk hl250_2
            clear hi250_2 hl250_2
            replace p250 := eq_true p250
            replace q250 := eq_true q250
            go_wp2
            go_ret
            exact ⟨by first | rfl | (simp; done) | (simp [*]; done), by repeat (first | exact Drawn0.refl _ | apply Drawn0.step)⟩
          · rw [if_neg c4] at H
            have c4b0 : decide (30 < (((rd_T48 l0 x3_1).f1).length : Int)) = false := decide_eq_false c4
            have c4b1 : decide (30 < ((rd_T48 l0 x3_1).f1).length) = false := decide_eq_false (by omega)
            clear c4
            by_cases c5 : (((rd_T48 l0 x3_1).f2).length : Int) > 30
            · rw [if_pos c5] at H
              have c5b0 : decide (30 < (((rd_T48 l0 x3_1).f2).length : Int)) = true := decide_eq_true c5
              have c5b1 : decide (30 < ((rd_T48 l0 x3_1).f2).length) = true := decide_eq_true (by omega)
              clear c5
              obtain rfl := Option.some.inj H
              have p250 : 0 ≤ (x3_1 : Int) := of_decide_eq_true (by first | (with_reducible assumption) | assumption)
              have q250 : x3_1 < (l0.length : Int) := of_decide_eq_true (by first | (with_reducible assumption) | assumption)
              obtain ⟨ad250, A250_1, c250_1, A250_2, c250_2, e250, hx250_0, hx250_1, hx250_2, hl250_1, hi250_1, hl250_2, hi250_2⟩ := at_T48 HR0.out x3_1 p250 q250
              cases e250
              have HR250_1 := Aside0.mk hi250_1
              have HC250_1 := Aside0.mk hl250_1
              clear hi250_1 hl250_1
              have HR250_2 := Aside0.mk hi250_2
              have HC250_2 := Aside0.mk hl250_2
              clear hi250_2 hl250_2
              replace p250 := eq_true p250
              replace q250 := eq_true q250
              have p251 : 0 ≤ (x3_1 : Int) := of_decide_eq_true (by first | (with_reducible assumption) | assumption)
              have q251 : x3_1 < (l0.length : Int) := of_decide_eq_true (by first | (with_reducible assumption) | assumption)
              obtain ⟨ad251, A251_1, c251_1, A251_2, c251_2, e251, hx251_0, hx251_1, hx251_2, hl251_1, hi251_1, hl251_2, hi251_2⟩ := at_T48 HR0.out x3_1 p251 q251
              obtain rfl : ad250 = ad251 := (by injection e251)
              have HR251_1 := Aside0.mk hi251_1
              have HC251_1 := Aside0.mk hl251_1
              clear hi251_1 hl251_1
              have HR251_2 := Aside0.mk hi251_2
              have HC251_2 := Aside0.mk hl251_2
              clear hi251_2 hl251_2
              replace p251 := eq_true p251
              replace q251 := eq_true q251
              have ea_ := Option.some.inj (hx250_1.symm.trans hx251_1)
              injection ea_ with ea_ en_ ec_
              subst ea_
              subst ec_
              clear en_
              have ea_ := Option.some.inj (hx250_2.symm.trans hx251_2)
              injection ea_ with ea_ en_ ec_
              subst ea_
              subst ec_
              clear en_
              go_wp2
              go_ret
              exact ⟨by first | rfl | (simp; done) | (simp [*]; done), by repeat (first | exact Drawn0.refl _ | apply Drawn0.step)⟩
            · rw [if_neg c5] at H
              have c5b0 : decide (30 < (((rd_T48 l0 x3_1).f2).length : Int)) = false := decide_eq_false c5
              have c5b1 : decide (30 < ((rd_T48 l0 x3_1).f2).length) = false := decide_eq_false (by omega)
              clear c5
              have H' := Aside0.mk H
              clear H
              have p250 : 0 ≤ (x3_1 : Int) := of_decide_eq_true (by first | (with_reducible assumption) | assumption)
              have q250 : x3_1 < (l0.length : Int) := of_decide_eq_true (by first | (with_reducible assumption) | assumption)
              obtain ⟨ad250, A250_1, c250_1, A250_2, c250_2, e250, hx250_0, hx250_1, hx250_2, hl250_1, hi250_1, hl250_2, hi250_2⟩ := at_T48 HR0.out x3_1 p250 q250
              cases e250
              have HR250_1 := Aside0.mk hi250_1
              have HC250_1 := Aside0.mk hl250_1
              clear hi250_1 hl250_1
              have HR250_2 := Aside0.mk hi250_2
              have HC250_2 := Aside0.mk hl250_2
              clear hi250_2 hl250_2
              replace p250 := eq_true p250
              replace q250 := eq_true q250
              have p251 : 0 ≤ (x3_1 : Int) := of_decide_eq_true (by first | (with_reducible assumption) | assumption)
              have q251 : x3_1 < (l0.length : Int) := of_decide_eq_true (by first | (with_reducible assumption) | assumption)
              obtain ⟨ad251, A251_1, c251_1, A251_2, c251_2, e251, hx251_0, hx251_1, hx251_2, hl251_1, hi251_1, hl251_2, hi251_2⟩ := at_T48 HR0.out x3_1 p251 q251
              obtain rfl : ad250 = ad251 := (by injection e251)
              have HR251_1 := Aside0.mk hi251_1
              have HC251_1 := Aside0.mk hl251_1
              clear hi251_1 hl251_1
              have HR251_2 := Aside0.mk hi251_2
              have HC251_2 := Aside0.mk hl251_2
              clear hi251_2 hl251_2
              replace p251 := eq_true p251
              replace q251 := eq_true q251
              have ea_ := Option.some.inj (hx250_1.symm.trans hx251_1)
              injection ea_ with ea_ en_ ec_
              subst ea_
              subst ec_
              clear en_
              have ea_ := Option.some.inj (hx250_2.symm.trans hx251_2)
              injection ea_ with ea_ en_ ec_
              subst ea_
              subst ec_
              clear en_
              go_wp2
              go_roundg k1
              case measure => have := HK1.out; omega
              case rel => exact ⟨(wrap64 (x3_1 + 1)), (by first | rfl | (simp; done) | (simp [*]; done)), H', ⟨by have := HK1.out; omega⟩, by repeat (first | exact Drawn0.refl _ | apply Drawn0.step)⟩
        · rw [if_neg c3] at H
          exact absurd H (by simp)
      · rw [if_neg c2] at H
        have c2b0 : decide (x3_1 < (l0.length : Int)) = false := decide_eq_false c2
        clear c2
        obtain rfl := Option.some.inj H
        go_wp2
        go_ret
        exact ⟨by first | rfl | (simp; done) | (simp [*]; done), by repeat (first | exact Drawn0.refl _ | apply Drawn0.step)⟩
def fullerref03_Few.f (l0_0 : List Int) (l0_1 : List Int) : Option (Bool) := if (l0_0.length : Int) ≤ 100 then (some (decide ((l0_1.length : Int) ≤ 100))) else (some false)
set_option maxHeartbeats 8000000 in
set_option maxRecDepth 100000 in
theorem fullerref03_Few.calls (A0_0 : Option Addr) (c0_0 : Nat) (l0_0 : List Int) (A0_1 : Option Addr) (c0_1 : Nat) (l0_1 : List Int) (r : Bool) (w : World) (hr0_0 : Kd.C (Kd.int .i64) w A0_0 l0_0.length l0_0) (hc0_0 : l0_0.length ≤ c0_0) (hr0_1 : Kd.C (Kd.int .i64) w A0_1 l0_1.length l0_1) (hc0_1 : l0_1.length ≤ c0_1) (h : fullerref03_Few.f l0_0 l0_1 = some r) :
    Calls Try.prog 20 #[.agg #[.slice A0_0 l0_0.length c0_0, .slice A0_1 l0_1.length c0_1]] w fun e w' => e = .returned (.bool r) ∧ Below w.heap.size w w' := by
  have hu26 := Try.underlying26
  have HR0_0 := Aside0.mk hr0_0
  have HC0_0 := Aside0.mk hc0_0
  clear hr0_0 hc0_0
  have HR0_1 := Aside0.mk hr0_1
  have HC0_1 := Aside0.mk hc0_1
  clear hr0_1 hc0_1
  have HB := Aside0.mk (Below.refl w.heap.size w)
  have H : (if (l0_0.length : Int) ≤ 100 then (some (decide ((l0_1.length : Int) ≤ 100))) else (some false)) = some r := h
  clear h
  by_cases c2 : (l0_0.length : Int) ≤ 100
  · rw [if_pos c2] at H
    have c2b0 : decide ((l0_0.length : Int) ≤ 100) = true := decide_eq_true c2
    have c2b1 : decide (l0_0.length ≤ 100) = true := decide_eq_true (by omega)
    clear c2
    obtain rfl := Option.some.inj H
    go_enter Try.func20, Try.ntmps20
    go_wp2_with (first | ((with_reducible refine gate_dst (N := 1) rfl ?_); (try (refine gate_guard (by rfl) ?_; dsimp only)); refine box_event ?hg (N := 1) ?hd (cs := #[.slice A0_0 l0_0.length c0_0, .slice A0_1 l0_1.length c0_1]) (t := 26) ?hr ?_; (case hd => rfl); (case hg => rfl); (case hr => first | (go_simp; done) | (go_simp; rfl)); intro gb252 hg w3 hbox hb; have n0_ := Aside0.mk (below_step (by repeat (first | (with_reducible first | exact HB.out | apply below_alloc | apply pw_below_drewN | apply below_drew1) | exact HB.out)) hb); have n1_ := Aside0.mk (hbox); have n2_ := Aside0.mk ((by rw [hg]; exact (below_size (by repeat (first | (with_reducible first | exact HB.out | apply below_alloc | apply pw_below_drewN | apply below_drew1) | exact HB.out))) : w.heap.size ≤ gb252)); have n3_ := Aside0.mk ((by rw [hg]; exact (below_size (by repeat (first | (with_reducible first | exact HB.out | apply below_alloc | apply pw_below_drewN | apply below_drew1) | exact HB.out))) : w.heap.size ≤ gb252)); clear HB; have HB := n0_; have BK252 := n1_; have GW252 := n2_; have GE252 := n3_; clear n0_ n1_ n2_ n3_; clear hb hbox hg; have hcz4_0 := cz0_ BK252.out; have hcz4_1 := cz1_ BK252.out; have hfz4_0 := blk_frozen BK252.out 0; have hfz4_1 := blk_frozen BK252.out 1))
    go_ret
    exact ⟨by first | rfl | (simp [errW_none, errW_some] <;> rfl) | (simp [*, errW_none, errW_some] <;> rfl), by repeat (first | (with_reducible first | exact HB.out | apply below_alloc | apply pw_below_drewN | apply below_drew1 | refine below_set ?_ GE252.out) | exact HB.out)⟩
  · rw [if_neg c2] at H
    have c2b0 : decide ((l0_0.length : Int) ≤ 100) = false := decide_eq_false c2
    have c2b1 : decide (l0_0.length ≤ 100) = false := decide_eq_false (by omega)
    clear c2
    obtain rfl := Option.some.inj H
    go_enter Try.func20, Try.ntmps20
    go_wp2_with (first | ((with_reducible refine gate_dst (N := 1) rfl ?_); (try (refine gate_guard (by rfl) ?_; dsimp only)); refine box_event ?hg (N := 1) ?hd (cs := #[.slice A0_0 l0_0.length c0_0, .slice A0_1 l0_1.length c0_1]) (t := 26) ?hr ?_; (case hd => rfl); (case hg => rfl); (case hr => first | (go_simp; done) | (go_simp; rfl)); intro gb252 hg w5 hbox hb; have n0_ := Aside0.mk (below_step (by repeat (first | (with_reducible first | exact HB.out | apply below_alloc | apply pw_below_drewN | apply below_drew1) | exact HB.out)) hb); have n1_ := Aside0.mk (hbox); have n2_ := Aside0.mk ((by rw [hg]; exact (below_size (by repeat (first | (with_reducible first | exact HB.out | apply below_alloc | apply pw_below_drewN | apply below_drew1) | exact HB.out))) : w.heap.size ≤ gb252)); have n3_ := Aside0.mk ((by rw [hg]; exact (below_size (by repeat (first | (with_reducible first | exact HB.out | apply below_alloc | apply pw_below_drewN | apply below_drew1) | exact HB.out))) : w.heap.size ≤ gb252)); clear HB; have HB := n0_; have BK252 := n1_; have GW252 := n2_; have GE252 := n3_; clear n0_ n1_ n2_ n3_; clear hb hbox hg; have hcz6_0 := cz0_ BK252.out; have hcz6_1 := cz1_ BK252.out; have hfz6_0 := blk_frozen BK252.out 0; have hfz6_1 := blk_frozen BK252.out 1))
    go_ret
    exact ⟨by first | rfl | (simp [errW_none, errW_some] <;> rfl) | (simp [*, errW_none, errW_some] <;> rfl), by repeat (first | (with_reducible first | exact HB.out | apply below_alloc | apply pw_below_drewN | apply below_drew1 | refine below_set ?_ GE252.out) | exact HB.out)⟩
def fullerref21_Cmds.l0 : Nat → List (S30) → Int → Int → Option (Bool)
 | 0, _, _, _ => none
 | k + 1, x0, x1, x5 => if x5 < (x0.length : Int) then (if 0 ≤ x5 then ((fullerref10_Few.f k ((rd_T30 x0 x5).f2)).bind fun t254 => ((fullerref03_Few.f ((rd_T30 x0 x5).f3.f0) ((rd_T30 x0 x5).f3.f1)).bind fun t256 => (if t254 = true then (if t256 = true then (fullerref21_Cmds.l0 k x0 x1 (wrap64 (x5 + 1))) else (some false)) else (some false)))) else (none)) else (some (decide ((x0.length : Int) ≤ x1)))
def fullerref21_Cmds.f (k : Nat) (l0 : List (S30)) (a1 : Int) : Option (Bool) := fullerref21_Cmds.l0 k l0 a1 0
set_option maxHeartbeats 8000000 in
set_option maxRecDepth 100000 in
theorem fullerref21_Cmds.calls (k : Nat) (A0 : Option Addr) (c0 : Nat) (l0 : List (S30)) (a1 : Int) (r : Bool) (w : World) (hr0 : Kd.C k30 w A0 l0.length l0) (hc0 : l0.length ≤ c0) (h : fullerref21_Cmds.f k l0 a1 = some r) :
  Calls Try.prog 9 #[.slice A0 l0.length c0, .int .i64 a1] w fun e w' => e = .returned (.bool r) ∧ Below w.heap.size w w' := by
 have hu26 := Try.underlying26
 have HR0 := Aside0.mk hr0
 have HC0 := Aside0.mk hc0
 clear hr0 hc0
 have HB := Aside0.mk (Below.refl w.heap.size w)
 have H : (fullerref21_Cmds.l0 k l0 a1 0) = some r := h
 clear h
 have H' := Aside0.mk H
 clear H
 go_enter Try.func9, Try.ntmps9
 go_wp2
 go_loopg [5] k (fun kq v5 w' => ∃ (x5_1 : Int), v5 = .int .i64 x5_1 ∧ Aside0 (fullerref21_Cmds.l0 kq l0 a1 x5_1 = some r) ∧ Aside0 (kq ≤ k) ∧ Aside0 (Below w.heap.size w w'))
 case atStart => exact ⟨(0), (by first | rfl | (simp; done) | (simp [*]; done)), H', ⟨Nat.le_refl _⟩, ⟨bq0_ HB.out⟩⟩
 case round =>
  clear H'
  try clear p2
  obtain ⟨x5_1, rfl, HA, HK1, HB⟩ := hrel
  cases gk with
  | zero => exact absurd HA.out (by simp [fullerref21_Cmds.l0])
  | succ k1 =>
   have H := HA.out
   clear HA
   simp only [fullerref21_Cmds.l0] at H
   by_cases c3 : x5_1 < (l0.length : Int)
   ·rw [if_pos c3] at H
    have c3b0 : decide (x5_1 < (l0.length : Int)) = true := decide_eq_true c3
    clear c3
    by_cases c4 : 0 ≤ x5_1
    ·rw [if_pos c4] at H
     have c4b0 : decide (0 ≤ x5_1) = true := decide_eq_true c4
     clear c4
     replace H := Option.bind_eq_some_iff.mp H
     obtain ⟨t254, A50, H⟩ := H
     replace H : ((fullerref03_Few.f ((rd_T30 l0 x5_1).f3.f0) ((rd_T30 l0 x5_1).f3.f1)).bind fun t256 => (if t254 = true then (if t256 = true then (fullerref21_Cmds.l0 k1 l0 a1 (wrap64 (x5_1 + 1))) else (some false)) else (some false))) = some r := H
     have A5 := Aside0.mk A50
     clear A50
     replace H := Option.bind_eq_some_iff.mp H
     obtain ⟨t256, A60, H⟩ := H
     replace H : (if t254 = true then (if t256 = true then (fullerref21_Cmds.l0 k1 l0 a1 (wrap64 (x5_1 + 1))) else (some false)) else (some false)) = some r := H
     have A6 := Aside0.mk A60
     clear A60
     by_cases c7 : t254 = true
     ·subst c7
      have H1 : (if t256 = true then (fullerref21_Cmds.l0 k1 l0 a1 (wrap64 (x5_1 + 1))) else (some false)) = some r := by rw [if_pos rfl] at H; exact H
      clear H
      have H := H1
      clear H1
      by_cases c8 : t256 = true
      ·subst c8
       have H1 : (fullerref21_Cmds.l0 k1 l0 a1 (wrap64 (x5_1 + 1))) = some r := by rw [if_pos rfl] at H; exact H
       clear H
       have H := H1
       clear H1
       have H' := Aside0.mk H
       clear H
       have p253 : 0 ≤ (x5_1 : Int) := od_
       have q253 : x5_1 < (l0.length : Int) := od_
       obtain ⟨ad253, A253_2, c253_2, A253_3, c253_3, A253_4, c253_4, e253, hx253_0, hx253_1, hx253_2, hx253_3, hx253_4, hx253_5, hx253_6, hx253_7, hx253_8, hx253_9, hx253_10, hl253_2, hi253_2, hl253_3, hi253_3, hl253_4, hi253_4⟩ := at_T30 HR0.out x5_1 p253 q253
       cases e253
       replace hx253_0 := hb_ HB hx253_0
       replace hx253_1 := hb_ HB hx253_1
       replace hx253_2 := hb_ HB hx253_2
       replace hx253_3 := hb_ HB hx253_3
       replace hx253_4 := hb_ HB hx253_4
       replace hx253_5 := hb_ HB hx253_5
       replace hx253_6 := hb_ HB hx253_6
       replace hx253_7 := hb_ HB hx253_7
       replace hx253_8 := hb_ HB hx253_8
       replace hx253_9 := hb_ HB hx253_9
       replace hx253_10 := hb_ HB hx253_10
       have HR253_2 := Aside0.mk hi253_2
       have HC253_2 := Aside0.mk hl253_2
       clear hi253_2 hl253_2
       have HR253_3 := Aside0.mk hi253_3
       have HC253_3 := Aside0.mk hl253_3
       clear hi253_3 hl253_3
       have HR253_4 := Aside0.mk hi253_4
       have HC253_4 := Aside0.mk hl253_4
       clear hi253_4 hl253_4
       replace p253 := eq_true p253
       replace q253 := eq_true q253
       go_wp2_with (first | ((with_reducible refine gate_callee (f := 19) rfl ?_); refine gL_ (some 19) Try.func19 #[.slice A253_2 ((rd_T30 l0 x5_1).f2).length c253_2] ?_; (with_reducible refine (fullerref10_Few.calls k1 _ _ ((rd_T30 l0 x5_1).f2) true _ ?side1 ?side2 A5.out).mono ?_); (case side1 => exact mvC_ ((Kd.C_below HR253_2.out HB.out))); (case side2 => exact HC253_2.out); rintro e w' ⟨rfl, ⟨nd, rfl⟩⟩; refine ⟨_, rfl, ?_⟩; have p255 : 0 ≤ (x5_1 : Int) := od_; have q255 : x5_1 < (l0.length : Int) := od_; obtain ⟨ad255, A255_2, c255_2, A255_3, c255_3, A255_4, c255_4, e255, hx255_0, hx255_1, hx255_2, hx255_3, hx255_4, hx255_5, hx255_6, hx255_7, hx255_8, hx255_9, hx255_10, hl255_2, hi255_2, hl255_3, hi255_3, hl255_4, hi255_4⟩ := at_T30 HR0.out x5_1 p255 q255; obtain rfl : ad253 = ad255 := (by injection e255); replace hx255_0 := hb_ HB hx255_0; replace hx255_1 := hb_ HB hx255_1; replace hx255_2 := hb_ HB hx255_2; replace hx255_3 := hb_ HB hx255_3; replace hx255_4 := hb_ HB hx255_4; replace hx255_5 := hb_ HB hx255_5; replace hx255_6 := hb_ HB hx255_6; replace hx255_7 := hb_ HB hx255_7; replace hx255_8 := hb_ HB hx255_8; replace hx255_9 := hb_ HB hx255_9; replace hx255_10 := hb_ HB hx255_10; have HR255_2 := Aside0.mk hi255_2; have HC255_2 := Aside0.mk hl255_2; clear hi255_2 hl255_2; have HR255_3 := Aside0.mk hi255_3; have HC255_3 := Aside0.mk hl255_3; clear hi255_3 hl255_3; have HR255_4 := Aside0.mk hi255_4; have HC255_4 := Aside0.mk hl255_4; clear hi255_4 hl255_4; replace p255 := eq_true p255; replace q255 := eq_true q255; have ea_ := Option.some.inj (hx253_2.symm.trans hx255_2); injection ea_ with ea_ en_ ec_; subst ea_; subst ec_; clear en_; have ea_ := Option.some.inj (hx253_3.symm.trans hx255_3); injection ea_ with ea_ en_ ec_; subst ea_; subst ec_; clear en_; have ea_ := Option.some.inj (hx253_4.symm.trans hx255_4); injection ea_ with ea_ en_ ec_; subst ea_; subst ec_; clear en_) | ((with_reducible refine gate_callee (f := 20) rfl ?_); refine gL_ (some 25) Try.func20 #[.agg #[.slice A253_3 ((rd_T30 l0 x5_1).f3.f0).length c253_3, .slice A253_4 ((rd_T30 l0 x5_1).f3.f1).length c253_4]] ?_; (with_reducible refine (fullerref03_Few.calls _ _ ((rd_T30 l0 x5_1).f3.f0) _ _ ((rd_T30 l0 x5_1).f3.f1) true _ ?side1 ?side2 ?side3 ?side4 A6.out).mono ?_); (case side1 => repeat (first | exact (Kd.C_below HR255_3.out (bq0_ HB.out)) | (with_reducible refine Kd.C_alloc ?_ _) | (with_reducible refine Kd.C_drewN ?_ _) | (with_reducible refine Kd.C_drew ?_))); (case side2 => exact HC255_3.out); (case side3 => repeat (first | exact (Kd.C_below HR255_4.out (bq0_ HB.out)) | (with_reducible refine Kd.C_alloc ?_ _) | (with_reducible refine Kd.C_drewN ?_ _) | (with_reducible refine Kd.C_drew ?_))); (case side4 => exact HC255_4.out); rintro e w9 ⟨rfl, hb⟩; refine ⟨_, rfl, ?_⟩; replace HB := Aside0.mk (below_step (bq0_ HB.out) hb); (try clear hb)))
       go_roundg k1
       case measure => have := HK1.out; omega
       case rel => exact ⟨(wrap64 (x5_1 + 1)), (by first | rfl | (simp; done) | (simp [*]; done)), H', ⟨by have := HK1.out; omega⟩, ⟨bq0_ HB.out⟩⟩
      ·replace c8 := Bool.eq_false_iff.mpr c8
       subst c8
       have H1 : (some false) = some r := by rw [if_neg (show ¬ (false = true) by decide)] at H; exact H
       clear H
       have H := H1
       clear H1
       obtain rfl := Option.some.inj H
       have p253 : 0 ≤ (x5_1 : Int) := od_
       have q253 : x5_1 < (l0.length : Int) := od_
       obtain ⟨ad253, A253_2, c253_2, A253_3, c253_3, A253_4, c253_4, e253, hx253_0, hx253_1, hx253_2, hx253_3, hx253_4, hx253_5, hx253_6, hx253_7, hx253_8, hx253_9, hx253_10, hl253_2, hi253_2, hl253_3, hi253_3, hl253_4, hi253_4⟩ := at_T30 HR0.out x5_1 p253 q253
       cases e253
       replace hx253_0 := hb_ HB hx253_0
       replace hx253_1 := hb_ HB hx253_1
       replace hx253_2 := hb_ HB hx253_2
       replace hx253_3 := hb_ HB hx253_3
       replace hx253_4 := hb_ HB hx253_4
       replace hx253_5 := hb_ HB hx253_5
       replace hx253_6 := hb_ HB hx253_6
       replace hx253_7 := hb_ HB hx253_7
       replace hx253_8 := hb_ HB hx253_8
       replace hx253_9 := hb_ HB hx253_9
       replace hx253_10 := hb_ HB hx253_10
       have HR253_2 := Aside0.mk hi253_2
       have HC253_2 := Aside0.mk hl253_2
       clear hi253_2 hl253_2
       have HR253_3 := Aside0.mk hi253_3
       have HC253_3 := Aside0.mk hl253_3
       clear hi253_3 hl253_3
       have HR253_4 := Aside0.mk hi253_4
       have HC253_4 := Aside0.mk hl253_4
       clear hi253_4 hl253_4
       replace p253 := eq_true p253
       replace q253 := eq_true q253
       go_wp2_with (first | ((with_reducible refine gate_callee (f := 19) rfl ?_); refine gL_ (some 19) Try.func19 #[.slice A253_2 ((rd_T30 l0 x5_1).f2).length c253_2] ?_; (with_reducible refine (fullerref10_Few.calls k1 _ _ ((rd_T30 l0 x5_1).f2) true _ ?side1 ?side2 A5.out).mono ?_); (case side1 => exact mvC_ ((Kd.C_below HR253_2.out HB.out))); (case side2 => exact HC253_2.out); rintro e w' ⟨rfl, ⟨nd, rfl⟩⟩; refine ⟨_, rfl, ?_⟩; have p255 : 0 ≤ (x5_1 : Int) := od_; have q255 : x5_1 < (l0.length : Int) := od_; obtain ⟨ad255, A255_2, c255_2, A255_3, c255_3, A255_4, c255_4, e255, hx255_0, hx255_1, hx255_2, hx255_3, hx255_4, hx255_5, hx255_6, hx255_7, hx255_8, hx255_9, hx255_10, hl255_2, hi255_2, hl255_3, hi255_3, hl255_4, hi255_4⟩ := at_T30 HR0.out x5_1 p255 q255; obtain rfl : ad253 = ad255 := (by injection e255); replace hx255_0 := hb_ HB hx255_0; replace hx255_1 := hb_ HB hx255_1; replace hx255_2 := hb_ HB hx255_2; replace hx255_3 := hb_ HB hx255_3; replace hx255_4 := hb_ HB hx255_4; replace hx255_5 := hb_ HB hx255_5; replace hx255_6 := hb_ HB hx255_6; replace hx255_7 := hb_ HB hx255_7; replace hx255_8 := hb_ HB hx255_8; replace hx255_9 := hb_ HB hx255_9; replace hx255_10 := hb_ HB hx255_10; have HR255_2 := Aside0.mk hi255_2; have HC255_2 := Aside0.mk hl255_2; clear hi255_2 hl255_2; have HR255_3 := Aside0.mk hi255_3; have HC255_3 := Aside0.mk hl255_3; clear hi255_3 hl255_3; have HR255_4 := Aside0.mk hi255_4; have HC255_4 := Aside0.mk hl255_4; clear hi255_4 hl255_4; replace p255 := eq_true p255; replace q255 := eq_true q255; have ea_ := Option.some.inj (hx253_2.symm.trans hx255_2); injection ea_ with ea_ en_ ec_; subst ea_; subst ec_; clear en_; have ea_ := Option.some.inj (hx253_3.symm.trans hx255_3); injection ea_ with ea_ en_ ec_; subst ea_; subst ec_; clear en_; have ea_ := Option.some.inj (hx253_4.symm.trans hx255_4); injection ea_ with ea_ en_ ec_; subst ea_; subst ec_; clear en_) | ((with_reducible refine gate_callee (f := 20) rfl ?_); refine gL_ (some 25) Try.func20 #[.agg #[.slice A253_3 ((rd_T30 l0 x5_1).f3.f0).length c253_3, .slice A253_4 ((rd_T30 l0 x5_1).f3.f1).length c253_4]] ?_; (with_reducible refine (fullerref03_Few.calls _ _ ((rd_T30 l0 x5_1).f3.f0) _ _ ((rd_T30 l0 x5_1).f3.f1) false _ ?side1 ?side2 ?side3 ?side4 A6.out).mono ?_); (case side1 => repeat (first | exact (Kd.C_below HR255_3.out (bq0_ HB.out)) | (with_reducible refine Kd.C_alloc ?_ _) | (with_reducible refine Kd.C_drewN ?_ _) | (with_reducible refine Kd.C_drew ?_))); (case side2 => exact HC255_3.out); (case side3 => repeat (first | exact (Kd.C_below HR255_4.out (bq0_ HB.out)) | (with_reducible refine Kd.C_alloc ?_ _) | (with_reducible refine Kd.C_drewN ?_ _) | (with_reducible refine Kd.C_drew ?_))); (case side4 => exact HC255_4.out); rintro e w10 ⟨rfl, hb⟩; refine ⟨_, rfl, ?_⟩; replace HB := Aside0.mk (below_step (bq0_ HB.out) hb); (try clear hb)))
       go_ret
       exact ⟨by first | rfl | (simp <;> rfl) | (simp [*] <;> rfl), bq0_ HB.out⟩
     ·replace c7 := Bool.eq_false_iff.mpr c7
      subst c7
      have H1 : (some false) = some r := by rw [if_neg (show ¬ (false = true) by decide)] at H; exact H
      clear H
      have H := H1
      clear H1
      obtain rfl := Option.some.inj H
      have p253 : 0 ≤ (x5_1 : Int) := od_
      have q253 : x5_1 < (l0.length : Int) := od_
      obtain ⟨ad253, A253_2, c253_2, A253_3, c253_3, A253_4, c253_4, e253, hx253_0, hx253_1, hx253_2, hx253_3, hx253_4, hx253_5, hx253_6, hx253_7, hx253_8, hx253_9, hx253_10, hl253_2, hi253_2, hl253_3, hi253_3, hl253_4, hi253_4⟩ := at_T30 HR0.out x5_1 p253 q253
      cases e253
      replace hx253_0 := hb_ HB hx253_0
      replace hx253_1 := hb_ HB hx253_1
      replace hx253_2 := hb_ HB hx253_2
      replace hx253_3 := hb_ HB hx253_3
      replace hx253_4 := hb_ HB hx253_4
      replace hx253_5 := hb_ HB hx253_5
      replace hx253_6 := hb_ HB hx253_6
      replace hx253_7 := hb_ HB hx253_7
      replace hx253_8 := hb_ HB hx253_8
      replace hx253_9 := hb_ HB hx253_9
      replace hx253_10 := hb_ HB hx253_10
      have HR253_2 := Aside0.mk hi253_2
      have HC253_2 := Aside0.mk hl253_2
      clear hi253_2 hl253_2
      have HR253_3 := Aside0.mk hi253_3
      have HC253_3 := Aside0.mk hl253_3
      clear hi253_3 hl253_3
      have HR253_4 := Aside0.mk hi253_4
      have HC253_4 := Aside0.mk hl253_4
      clear hi253_4 hl253_4
      replace p253 := eq_true p253
      replace q253 := eq_true q253
      go_wp2_with (first | ((with_reducible refine gate_callee (f := 19) rfl ?_); refine gL_ (some 19) Try.func19 #[.slice A253_2 ((rd_T30 l0 x5_1).f2).length c253_2] ?_; (with_reducible refine (fullerref10_Few.calls k1 _ _ ((rd_T30 l0 x5_1).f2) false _ ?side1 ?side2 A5.out).mono ?_); (case side1 => exact mvC_ ((Kd.C_below HR253_2.out HB.out))); (case side2 => exact HC253_2.out); rintro e w' ⟨rfl, ⟨nd, rfl⟩⟩; refine ⟨_, rfl, ?_⟩; have p255 : 0 ≤ (x5_1 : Int) := od_; have q255 : x5_1 < (l0.length : Int) := od_; obtain ⟨ad255, A255_2, c255_2, A255_3, c255_3, A255_4, c255_4, e255, hx255_0, hx255_1, hx255_2, hx255_3, hx255_4, hx255_5, hx255_6, hx255_7, hx255_8, hx255_9, hx255_10, hl255_2, hi255_2, hl255_3, hi255_3, hl255_4, hi255_4⟩ := at_T30 HR0.out x5_1 p255 q255; obtain rfl : ad253 = ad255 := (by injection e255); replace hx255_0 := hb_ HB hx255_0; replace hx255_1 := hb_ HB hx255_1; replace hx255_2 := hb_ HB hx255_2; replace hx255_3 := hb_ HB hx255_3; replace hx255_4 := hb_ HB hx255_4; replace hx255_5 := hb_ HB hx255_5; replace hx255_6 := hb_ HB hx255_6; replace hx255_7 := hb_ HB hx255_7; replace hx255_8 := hb_ HB hx255_8; replace hx255_9 := hb_ HB hx255_9; replace hx255_10 := hb_ HB hx255_10; have HR255_2 := Aside0.mk hi255_2; have HC255_2 := Aside0.mk hl255_2; clear hi255_2 hl255_2; have HR255_3 := Aside0.mk hi255_3; have HC255_3 := Aside0.mk hl255_3; clear hi255_3 hl255_3; have HR255_4 := Aside0.mk hi255_4; have HC255_4 := Aside0.mk hl255_4; clear hi255_4 hl255_4; replace p255 := eq_true p255; replace q255 := eq_true q255; have ea_ := Option.some.inj (hx253_2.symm.trans hx255_2); injection ea_ with ea_ en_ ec_; subst ea_; subst ec_; clear en_; have ea_ := Option.some.inj (hx253_3.symm.trans hx255_3); injection ea_ with ea_ en_ ec_; subst ea_; subst ec_; clear en_; have ea_ := Option.some.inj (hx253_4.symm.trans hx255_4); injection ea_ with ea_ en_ ec_; subst ea_; subst ec_; clear en_) | ((with_reducible refine gate_callee (f := 20) rfl ?_); refine gL_ (some 25) Try.func20 #[.agg #[.slice A253_3 ((rd_T30 l0 x5_1).f3.f0).length c253_3, .slice A253_4 ((rd_T30 l0 x5_1).f3.f1).length c253_4]] ?_; (with_reducible refine (fullerref03_Few.calls _ _ ((rd_T30 l0 x5_1).f3.f0) _ _ ((rd_T30 l0 x5_1).f3.f1) t256 _ ?side1 ?side2 ?side3 ?side4 A6.out).mono ?_); (case side1 => repeat (first | exact (Kd.C_below HR255_3.out (bq0_ HB.out)) | (with_reducible refine Kd.C_alloc ?_ _) | (with_reducible refine Kd.C_drewN ?_ _) | (with_reducible refine Kd.C_drew ?_))); (case side2 => exact HC255_3.out); (case side3 => repeat (first | exact (Kd.C_below HR255_4.out (bq0_ HB.out)) | (with_reducible refine Kd.C_alloc ?_ _) | (with_reducible refine Kd.C_drewN ?_ _) | (with_reducible refine Kd.C_drew ?_))); (case side4 => exact HC255_4.out); rintro e w11 ⟨rfl, hb⟩; refine ⟨_, rfl, ?_⟩; replace HB := Aside0.mk (below_step (bq0_ HB.out) hb); (try clear hb)))
      go_ret
      exact ⟨by first | rfl | (simp <;> rfl) | (simp [*] <;> rfl), bq0_ HB.out⟩
    ·rw [if_neg c4] at H
     exact absurd H (by simp)
   ·rw [if_neg c3] at H
    have c3b0 : decide (x5_1 < (l0.length : Int)) = false := decide_eq_false c3
    clear c3
    obtain rfl := Option.some.inj H
    go_wp2
    go_ret
    exact ⟨by first | rfl | (simp <;> rfl) | (simp [*] <;> rfl), bq0_ HB.out⟩
end Go.Proofs.Ytjcgadfmhfhbgaa.A
