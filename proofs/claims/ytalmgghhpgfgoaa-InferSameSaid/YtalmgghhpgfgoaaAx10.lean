/- Lean functions that answer as the Go functions do, and the proofs that they do; no conditions. Written by this session's own driver: a scratch copy of the kit's print with the session's additions (wip/xprint). -/
import Derived.Test.YtalmgghhpgfgoaaAx0
import Derived.Test.YtalmgghhpgfgoaaAx8
import Derived.Test.YtalmgghhpgfgoaaAx9
namespace Go.Proofs.Ytalmgghhpgfgoaa.A
open Go.RowKit Go.Proofs.YtalmgghhpgfgoaaW.PrintWords Go.Proofs.YtalmgghhpgfgoaaW.PrintLast Go.Proofs.YtalmgghhpgfgoaaW.PrintMore
attribute [local go_sem] max2_int min2_int max_two min_two max_three min_three max_four min_four   -- for this text's walks alone
set_option linter.unusedVariables false
set_option linter.unusedSimpArgs false

/-! ### fullerlaw11_awake: function 8 -/
def fullerlaw11_awake.f (k : Nat)  : Option (Bool) := (some (([(⟨1, ([] : List Int), (([2, 3] : List Int))⟩ : S25), (⟨41, (([0] : List Int)), ([] : List Int)⟩ : S25), (⟨30, (([0, 1] : List Int)), ([] : List Int)⟩ : S25)] : List (S25)) : List (S25))).bind fun y227 => ((infer_Shapes.f k y227).bind fun bt230 => ((some (([] : List (S25)) : List (S25))).bind fun y235 => (if y235.length + y227.length < 2513169434916 then ((some (y235 ++ y227 : List (S25))).bind fun y238 => (if y238.length < 2513169434916 then ((infer_Shapes.f k (y238 ++ [(⟨10, (([0, 1] : List Int)), ([] : List Int)⟩ : S25)])).bind fun bt247 => ((infer_Shapes.f k ([] : List (S25))).bind fun bt252 => ((infer_Node.f k 50 ([] : List Int) (([0] : List Int)) (([(([2, 3] : List Int))] : List (List Int)))).bind fun bt266 => (if (bt230.1.length : Int) = 3 then (if 2 < (bt230.1.length : Int) then ((fullerref02_Same.f k (rd_L1 bt230.1 2) (([2, 2] : List Int))).bind fun t274 => (if t274 = true then (if bt230.2.1 = (-1) then (if bt230.2.2 = 0 then (if bt247.2.1 = 3 then (if bt247.2.2 = 20 then (if bt252.2.1 = (-1) then (if bt252.2.2 = 100 then ((fullerref02_Same.f k bt266.1 (([3] : List Int))).bind fun t278 => (if t278 = true then (if bt266.2 = 0 then (some true) else (none)) else (none))) else (none)) else (none)) else (none)) else (none)) else (none)) else (none)) else (none))) else (none)) else (none))))) else (none))) else (none))))
theorem fullerlaw11_awake.mono : ∀ k, LeO (fullerlaw11_awake.f k ) (fullerlaw11_awake.f (k + 1) ) := by
 intro  k
 unfold fullerlaw11_awake.f
 repeat' first
   | (with_reducible exact fullerref02_Same.mono _ _ _)
   | (with_reducible exact infer_Node.mono _ _ _ _ _)
   | (with_reducible exact infer_Shapes.mono _ _)
   | (with_reducible exact LeO.refl _)
   | (with_reducible exact LeO.none _)
   | (with_reducible refine LeO.ite ?_ ?_)
   | (with_reducible refine LeO.bind ?_ (fun _ => ?_))
   | exact fullerref02_Same.mono _ _ _
   | exact infer_Node.mono _ _ _ _ _
   | exact infer_Shapes.mono _ _
   | exact LeO.none _
   | refine LeO.ite ?_ ?_
   | refine LeO.bind ?_ (fun _ => ?_)
set_option maxHeartbeats 8000000 in
set_option maxRecDepth 100000 in
theorem fullerlaw11_awake.calls (k : Nat)  (r : Bool) (w : World) (h : fullerlaw11_awake.f k  = some r) :
  Calls Try.prog 8 #[] w fun e w' => e = .returned (.bool r) ∧ Below w.heap.size w w' := by
 have hu25 := Try.underlying25
 have HB := Aside0.mk (Below.refl w.heap.size w)
 have H : ((some (([(⟨1, ([] : List Int), (([2, 3] : List Int))⟩ : S25), (⟨41, (([0] : List Int)), ([] : List Int)⟩ : S25), (⟨30, (([0, 1] : List Int)), ([] : List Int)⟩ : S25)] : List (S25)) : List (S25))).bind fun y227 => ((infer_Shapes.f k y227).bind fun bt230 => ((some (([] : List (S25)) : List (S25))).bind fun y235 => (if y235.length + y227.length < 2513169434916 then ((some (y235 ++ y227 : List (S25))).bind fun y238 => (if y238.length < 2513169434916 then ((infer_Shapes.f k (y238 ++ [(⟨10, (([0, 1] : List Int)), ([] : List Int)⟩ : S25)])).bind fun bt247 => ((infer_Shapes.f k ([] : List (S25))).bind fun bt252 => ((infer_Node.f k 50 ([] : List Int) (([0] : List Int)) (([(([2, 3] : List Int))] : List (List Int)))).bind fun bt266 => (if (bt230.1.length : Int) = 3 then (if 2 < (bt230.1.length : Int) then ((fullerref02_Same.f k (rd_L1 bt230.1 2) (([2, 2] : List Int))).bind fun t274 => (if t274 = true then (if bt230.2.1 = (-1) then (if bt230.2.2 = 0 then (if bt247.2.1 = 3 then (if bt247.2.2 = 20 then (if bt252.2.1 = (-1) then (if bt252.2.2 = 100 then ((fullerref02_Same.f k bt266.1 (([3] : List Int))).bind fun t278 => (if t278 = true then (if bt266.2 = 0 then (some true) else (none)) else (none))) else (none)) else (none)) else (none)) else (none)) else (none)) else (none)) else (none))) else (none)) else (none))))) else (none))) else (none))))) = some r := h
 clear h
 obtain ⟨y218, hy218⟩ : ∃ y_ : List Int, y_ = (([2, 3] : List Int)) := ⟨_, rfl⟩
 replace H : ((some (([(⟨1, ([] : List Int), y218⟩ : S25), (⟨41, (([0] : List Int)), ([] : List Int)⟩ : S25), (⟨30, (([0, 1] : List Int)), ([] : List Int)⟩ : S25)] : List (S25)) : List (S25))).bind fun y227 => ((infer_Shapes.f k y227).bind fun bt230 => ((some (([] : List (S25)) : List (S25))).bind fun y235 => (if y235.length + y227.length < 2513169434916 then ((some (y235 ++ y227 : List (S25))).bind fun y238 => (if y238.length < 2513169434916 then ((infer_Shapes.f k (y238 ++ [(⟨10, (([0, 1] : List Int)), ([] : List Int)⟩ : S25)])).bind fun bt247 => ((infer_Shapes.f k ([] : List (S25))).bind fun bt252 => ((infer_Node.f k 50 ([] : List Int) (([0] : List Int)) (([(([2, 3] : List Int))] : List (List Int)))).bind fun bt266 => (if (bt230.1.length : Int) = 3 then (if 2 < (bt230.1.length : Int) then ((fullerref02_Same.f k (rd_L1 bt230.1 2) (([2, 2] : List Int))).bind fun t274 => (if t274 = true then (if bt230.2.1 = (-1) then (if bt230.2.2 = 0 then (if bt247.2.1 = 3 then (if bt247.2.2 = 20 then (if bt252.2.1 = (-1) then (if bt252.2.2 = 100 then ((fullerref02_Same.f k bt266.1 (([3] : List Int))).bind fun t278 => (if t278 = true then (if bt266.2 = 0 then (some true) else (none)) else (none))) else (none)) else (none)) else (none)) else (none)) else (none)) else (none)) else (none))) else (none)) else (none))))) else (none))) else (none))))) = some r := by first | (rw [hy218]; with_reducible exact H) | (have H2_ := (Option.bind_some _ _).symm.trans H; rw [hy218]; with_reducible exact H2_) | (have H2_ := (Option.bind_some _ _).symm.trans H; with_reducible exact H2_) | with_reducible exact H | (rw [hy218]; exact H) | exact H
 have Ny218 := Aside0.mk hy218
 clear hy218
 obtain ⟨y221, hy221⟩ : ∃ y_ : List Int, y_ = (([0] : List Int)) := ⟨_, rfl⟩
 replace H : ((some (([(⟨1, ([] : List Int), y218⟩ : S25), (⟨41, y221, ([] : List Int)⟩ : S25), (⟨30, (([0, 1] : List Int)), ([] : List Int)⟩ : S25)] : List (S25)) : List (S25))).bind fun y227 => ((infer_Shapes.f k y227).bind fun bt230 => ((some (([] : List (S25)) : List (S25))).bind fun y235 => (if y235.length + y227.length < 2513169434916 then ((some (y235 ++ y227 : List (S25))).bind fun y238 => (if y238.length < 2513169434916 then ((infer_Shapes.f k (y238 ++ [(⟨10, (([0, 1] : List Int)), ([] : List Int)⟩ : S25)])).bind fun bt247 => ((infer_Shapes.f k ([] : List (S25))).bind fun bt252 => ((infer_Node.f k 50 ([] : List Int) (([0] : List Int)) (([(([2, 3] : List Int))] : List (List Int)))).bind fun bt266 => (if (bt230.1.length : Int) = 3 then (if 2 < (bt230.1.length : Int) then ((fullerref02_Same.f k (rd_L1 bt230.1 2) (([2, 2] : List Int))).bind fun t274 => (if t274 = true then (if bt230.2.1 = (-1) then (if bt230.2.2 = 0 then (if bt247.2.1 = 3 then (if bt247.2.2 = 20 then (if bt252.2.1 = (-1) then (if bt252.2.2 = 100 then ((fullerref02_Same.f k bt266.1 (([3] : List Int))).bind fun t278 => (if t278 = true then (if bt266.2 = 0 then (some true) else (none)) else (none))) else (none)) else (none)) else (none)) else (none)) else (none)) else (none)) else (none))) else (none)) else (none))))) else (none))) else (none))))) = some r := by first | (rw [hy221]; with_reducible exact H) | (have H2_ := (Option.bind_some _ _).symm.trans H; rw [hy221]; with_reducible exact H2_) | (have H2_ := (Option.bind_some _ _).symm.trans H; with_reducible exact H2_) | with_reducible exact H | (rw [hy221]; exact H) | exact H
 have Ny221 := Aside0.mk hy221
 clear hy221
 obtain ⟨y224, hy224⟩ : ∃ y_ : List Int, y_ = (([0, 1] : List Int)) := ⟨_, rfl⟩
 replace H : ((some (([(⟨1, ([] : List Int), y218⟩ : S25), (⟨41, y221, ([] : List Int)⟩ : S25), (⟨30, y224, ([] : List Int)⟩ : S25)] : List (S25)) : List (S25))).bind fun y227 => ((infer_Shapes.f k y227).bind fun bt230 => ((some (([] : List (S25)) : List (S25))).bind fun y235 => (if y235.length + y227.length < 2513169434916 then ((some (y235 ++ y227 : List (S25))).bind fun y238 => (if y238.length < 2513169434916 then ((infer_Shapes.f k (y238 ++ [(⟨10, (([0, 1] : List Int)), ([] : List Int)⟩ : S25)])).bind fun bt247 => ((infer_Shapes.f k ([] : List (S25))).bind fun bt252 => ((infer_Node.f k 50 ([] : List Int) (([0] : List Int)) (([(([2, 3] : List Int))] : List (List Int)))).bind fun bt266 => (if (bt230.1.length : Int) = 3 then (if 2 < (bt230.1.length : Int) then ((fullerref02_Same.f k (rd_L1 bt230.1 2) (([2, 2] : List Int))).bind fun t274 => (if t274 = true then (if bt230.2.1 = (-1) then (if bt230.2.2 = 0 then (if bt247.2.1 = 3 then (if bt247.2.2 = 20 then (if bt252.2.1 = (-1) then (if bt252.2.2 = 100 then ((fullerref02_Same.f k bt266.1 (([3] : List Int))).bind fun t278 => (if t278 = true then (if bt266.2 = 0 then (some true) else (none)) else (none))) else (none)) else (none)) else (none)) else (none)) else (none)) else (none)) else (none))) else (none)) else (none))))) else (none))) else (none))))) = some r := by first | (rw [hy224]; with_reducible exact H) | (have H2_ := (Option.bind_some _ _).symm.trans H; rw [hy224]; with_reducible exact H2_) | (have H2_ := (Option.bind_some _ _).symm.trans H; with_reducible exact H2_) | with_reducible exact H | (rw [hy224]; exact H) | exact H
 have Ny224 := Aside0.mk hy224
 clear hy224
 obtain ⟨y227, hy227⟩ : ∃ y_ : List (S25), y_ = (([(⟨1, ([] : List Int), y218⟩ : S25), (⟨41, y221, ([] : List Int)⟩ : S25), (⟨30, y224, ([] : List Int)⟩ : S25)] : List (S25))) := ⟨_, rfl⟩
 replace H : ((infer_Shapes.f k y227).bind fun bt230 => ((some (([] : List (S25)) : List (S25))).bind fun y235 => (if y235.length + y227.length < 2513169434916 then ((some (y235 ++ y227 : List (S25))).bind fun y238 => (if y238.length < 2513169434916 then ((infer_Shapes.f k (y238 ++ [(⟨10, (([0, 1] : List Int)), ([] : List Int)⟩ : S25)])).bind fun bt247 => ((infer_Shapes.f k ([] : List (S25))).bind fun bt252 => ((infer_Node.f k 50 ([] : List Int) (([0] : List Int)) (([(([2, 3] : List Int))] : List (List Int)))).bind fun bt266 => (if (bt230.1.length : Int) = 3 then (if 2 < (bt230.1.length : Int) then ((fullerref02_Same.f k (rd_L1 bt230.1 2) (([2, 2] : List Int))).bind fun t274 => (if t274 = true then (if bt230.2.1 = (-1) then (if bt230.2.2 = 0 then (if bt247.2.1 = 3 then (if bt247.2.2 = 20 then (if bt252.2.1 = (-1) then (if bt252.2.2 = 100 then ((fullerref02_Same.f k bt266.1 (([3] : List Int))).bind fun t278 => (if t278 = true then (if bt266.2 = 0 then (some true) else (none)) else (none))) else (none)) else (none)) else (none)) else (none)) else (none)) else (none)) else (none))) else (none)) else (none))))) else (none))) else (none)))) = some r := by first | (rw [hy227]; with_reducible exact H) | (have H2_ := (Option.bind_some _ _).symm.trans H; rw [hy227]; with_reducible exact H2_) | (have H2_ := (Option.bind_some _ _).symm.trans H; with_reducible exact H2_) | with_reducible exact H | (rw [hy227]; exact H) | exact H
 have Ny227 := Aside0.mk hy227
 clear hy227
 replace H := Option.bind_eq_some_iff.mp H
 obtain ⟨⟨t230, t233, t234⟩, A10, H⟩ := H
 replace H : ((some (([] : List (S25)) : List (S25))).bind fun y235 => (if y235.length + y227.length < 2513169434916 then ((some (y235 ++ y227 : List (S25))).bind fun y238 => (if y238.length < 2513169434916 then ((infer_Shapes.f k (y238 ++ [(⟨10, (([0, 1] : List Int)), ([] : List Int)⟩ : S25)])).bind fun bt247 => ((infer_Shapes.f k ([] : List (S25))).bind fun bt252 => ((infer_Node.f k 50 ([] : List Int) (([0] : List Int)) (([(([2, 3] : List Int))] : List (List Int)))).bind fun bt266 => (if (t230.length : Int) = 3 then (if 2 < (t230.length : Int) then ((fullerref02_Same.f k (rd_L1 t230 2) (([2, 2] : List Int))).bind fun t274 => (if t274 = true then (if t233 = (-1) then (if t234 = 0 then (if bt247.2.1 = 3 then (if bt247.2.2 = 20 then (if bt252.2.1 = (-1) then (if bt252.2.2 = 100 then ((fullerref02_Same.f k bt266.1 (([3] : List Int))).bind fun t278 => (if t278 = true then (if bt266.2 = 0 then (some true) else (none)) else (none))) else (none)) else (none)) else (none)) else (none)) else (none)) else (none)) else (none))) else (none)) else (none))))) else (none))) else (none))) = some r := H
 have A1 := Aside0.mk A10
 clear A10
 obtain ⟨y235, hy235⟩ : ∃ y_ : List (S25), y_ = (([] : List (S25))) := ⟨_, rfl⟩
 replace H : (if y235.length + y227.length < 2513169434916 then ((some (y235 ++ y227 : List (S25))).bind fun y238 => (if y238.length < 2513169434916 then ((infer_Shapes.f k (y238 ++ [(⟨10, (([0, 1] : List Int)), ([] : List Int)⟩ : S25)])).bind fun bt247 => ((infer_Shapes.f k ([] : List (S25))).bind fun bt252 => ((infer_Node.f k 50 ([] : List Int) (([0] : List Int)) (([(([2, 3] : List Int))] : List (List Int)))).bind fun bt266 => (if (t230.length : Int) = 3 then (if 2 < (t230.length : Int) then ((fullerref02_Same.f k (rd_L1 t230 2) (([2, 2] : List Int))).bind fun t274 => (if t274 = true then (if t233 = (-1) then (if t234 = 0 then (if bt247.2.1 = 3 then (if bt247.2.2 = 20 then (if bt252.2.1 = (-1) then (if bt252.2.2 = 100 then ((fullerref02_Same.f k bt266.1 (([3] : List Int))).bind fun t278 => (if t278 = true then (if bt266.2 = 0 then (some true) else (none)) else (none))) else (none)) else (none)) else (none)) else (none)) else (none)) else (none)) else (none))) else (none)) else (none))))) else (none))) else (none)) = some r := by first | (rw [hy235]; with_reducible exact H) | (have H2_ := (Option.bind_some _ _).symm.trans H; rw [hy235]; with_reducible exact H2_) | (have H2_ := (Option.bind_some _ _).symm.trans H; with_reducible exact H2_) | with_reducible exact H | (rw [hy235]; exact H) | exact H
 have Ny235 := Aside0.mk hy235
 clear hy235
 by_cases c2 : y235.length + y227.length < 2513169434916
 ·rw [if_pos c2] at H
  have LMc2 := Aside0.mk c2
  clear c2
  obtain ⟨y238, hy238⟩ : ∃ y_ : List (S25), y_ = (y235 ++ y227) := ⟨_, rfl⟩
  replace H : (if y238.length < 2513169434916 then ((infer_Shapes.f k (y238 ++ [(⟨10, (([0, 1] : List Int)), ([] : List Int)⟩ : S25)])).bind fun bt247 => ((infer_Shapes.f k ([] : List (S25))).bind fun bt252 => ((infer_Node.f k 50 ([] : List Int) (([0] : List Int)) (([(([2, 3] : List Int))] : List (List Int)))).bind fun bt266 => (if (t230.length : Int) = 3 then (if 2 < (t230.length : Int) then ((fullerref02_Same.f k (rd_L1 t230 2) (([2, 2] : List Int))).bind fun t274 => (if t274 = true then (if t233 = (-1) then (if t234 = 0 then (if bt247.2.1 = 3 then (if bt247.2.2 = 20 then (if bt252.2.1 = (-1) then (if bt252.2.2 = 100 then ((fullerref02_Same.f k bt266.1 (([3] : List Int))).bind fun t278 => (if t278 = true then (if bt266.2 = 0 then (some true) else (none)) else (none))) else (none)) else (none)) else (none)) else (none)) else (none)) else (none)) else (none))) else (none)) else (none))))) else (none)) = some r := by first | (rw [hy238]; with_reducible exact H) | (have H2_ := (Option.bind_some _ _).symm.trans H; rw [hy238]; with_reducible exact H2_) | (have H2_ := (Option.bind_some _ _).symm.trans H; with_reducible exact H2_) | with_reducible exact H | (rw [hy238]; exact H) | exact H
  have Ny238 := Aside0.mk hy238
  clear hy238
  obtain ⟨y241, hy241⟩ : ∃ y_ : List Int, y_ = (([0, 1] : List Int)) := ⟨_, rfl⟩
  replace H : (if y238.length < 2513169434916 then ((infer_Shapes.f k (y238 ++ [(⟨10, y241, ([] : List Int)⟩ : S25)])).bind fun bt247 => ((infer_Shapes.f k ([] : List (S25))).bind fun bt252 => ((infer_Node.f k 50 ([] : List Int) (([0] : List Int)) (([(([2, 3] : List Int))] : List (List Int)))).bind fun bt266 => (if (t230.length : Int) = 3 then (if 2 < (t230.length : Int) then ((fullerref02_Same.f k (rd_L1 t230 2) (([2, 2] : List Int))).bind fun t274 => (if t274 = true then (if t233 = (-1) then (if t234 = 0 then (if bt247.2.1 = 3 then (if bt247.2.2 = 20 then (if bt252.2.1 = (-1) then (if bt252.2.2 = 100 then ((fullerref02_Same.f k bt266.1 (([3] : List Int))).bind fun t278 => (if t278 = true then (if bt266.2 = 0 then (some true) else (none)) else (none))) else (none)) else (none)) else (none)) else (none)) else (none)) else (none)) else (none))) else (none)) else (none))))) else (none)) = some r := by first | (rw [hy241]; with_reducible exact H) | (have H2_ := (Option.bind_some _ _).symm.trans H; rw [hy241]; with_reducible exact H2_) | (have H2_ := (Option.bind_some _ _).symm.trans H; with_reducible exact H2_) | with_reducible exact H | (rw [hy241]; exact H) | exact H
  have Ny241 := Aside0.mk hy241
  clear hy241
  by_cases c3 : y238.length < 2513169434916
  ·rw [if_pos c3] at H
   have LMc3 := Aside0.mk c3
   clear c3
   obtain ⟨y244, hy244⟩ : ∃ y_ : List (S25), y_ = (y238 ++ [(⟨10, y241, ([] : List Int)⟩ : S25)]) := ⟨_, rfl⟩
   replace H : ((infer_Shapes.f k y244).bind fun bt247 => ((infer_Shapes.f k ([] : List (S25))).bind fun bt252 => ((infer_Node.f k 50 ([] : List Int) (([0] : List Int)) (([(([2, 3] : List Int))] : List (List Int)))).bind fun bt266 => (if (t230.length : Int) = 3 then (if 2 < (t230.length : Int) then ((fullerref02_Same.f k (rd_L1 t230 2) (([2, 2] : List Int))).bind fun t274 => (if t274 = true then (if t233 = (-1) then (if t234 = 0 then (if bt247.2.1 = 3 then (if bt247.2.2 = 20 then (if bt252.2.1 = (-1) then (if bt252.2.2 = 100 then ((fullerref02_Same.f k bt266.1 (([3] : List Int))).bind fun t278 => (if t278 = true then (if bt266.2 = 0 then (some true) else (none)) else (none))) else (none)) else (none)) else (none)) else (none)) else (none)) else (none)) else (none))) else (none)) else (none))))) = some r := by first | (rw [hy244]; with_reducible exact H) | (have H2_ := (Option.bind_some _ _).symm.trans H; rw [hy244]; with_reducible exact H2_) | (have H2_ := (Option.bind_some _ _).symm.trans H; with_reducible exact H2_) | with_reducible exact H | (rw [hy244]; exact H) | exact H
   have Ny244 := Aside0.mk hy244
   clear hy244
   replace H := Option.bind_eq_some_iff.mp H
   obtain ⟨⟨t247, t250, t251⟩, A40, H⟩ := H
   replace H : ((infer_Shapes.f k ([] : List (S25))).bind fun bt252 => ((infer_Node.f k 50 ([] : List Int) (([0] : List Int)) (([(([2, 3] : List Int))] : List (List Int)))).bind fun bt266 => (if (t230.length : Int) = 3 then (if 2 < (t230.length : Int) then ((fullerref02_Same.f k (rd_L1 t230 2) (([2, 2] : List Int))).bind fun t274 => (if t274 = true then (if t233 = (-1) then (if t234 = 0 then (if t250 = 3 then (if t251 = 20 then (if bt252.2.1 = (-1) then (if bt252.2.2 = 100 then ((fullerref02_Same.f k bt266.1 (([3] : List Int))).bind fun t278 => (if t278 = true then (if bt266.2 = 0 then (some true) else (none)) else (none))) else (none)) else (none)) else (none)) else (none)) else (none)) else (none)) else (none))) else (none)) else (none)))) = some r := H
   have A4 := Aside0.mk A40
   clear A40
   replace H := Option.bind_eq_some_iff.mp H
   obtain ⟨⟨t252, t255, t256⟩, A50, H⟩ := H
   replace H : ((infer_Node.f k 50 ([] : List Int) (([0] : List Int)) (([(([2, 3] : List Int))] : List (List Int)))).bind fun bt266 => (if (t230.length : Int) = 3 then (if 2 < (t230.length : Int) then ((fullerref02_Same.f k (rd_L1 t230 2) (([2, 2] : List Int))).bind fun t274 => (if t274 = true then (if t233 = (-1) then (if t234 = 0 then (if t250 = 3 then (if t251 = 20 then (if t255 = (-1) then (if t256 = 100 then ((fullerref02_Same.f k bt266.1 (([3] : List Int))).bind fun t278 => (if t278 = true then (if bt266.2 = 0 then (some true) else (none)) else (none))) else (none)) else (none)) else (none)) else (none)) else (none)) else (none)) else (none))) else (none)) else (none))) = some r := H
   have A5 := Aside0.mk A50
   clear A50
   obtain ⟨y257, hy257⟩ : ∃ y_ : List Int, y_ = (([0] : List Int)) := ⟨_, rfl⟩
   replace H : ((infer_Node.f k 50 ([] : List Int) y257 (([(([2, 3] : List Int))] : List (List Int)))).bind fun bt266 => (if (t230.length : Int) = 3 then (if 2 < (t230.length : Int) then ((fullerref02_Same.f k (rd_L1 t230 2) (([2, 2] : List Int))).bind fun t274 => (if t274 = true then (if t233 = (-1) then (if t234 = 0 then (if t250 = 3 then (if t251 = 20 then (if t255 = (-1) then (if t256 = 100 then ((fullerref02_Same.f k bt266.1 (([3] : List Int))).bind fun t278 => (if t278 = true then (if bt266.2 = 0 then (some true) else (none)) else (none))) else (none)) else (none)) else (none)) else (none)) else (none)) else (none)) else (none))) else (none)) else (none))) = some r := by first | (rw [hy257]; with_reducible exact H) | (have H2_ := (Option.bind_some _ _).symm.trans H; rw [hy257]; with_reducible exact H2_) | (have H2_ := (Option.bind_some _ _).symm.trans H; with_reducible exact H2_) | with_reducible exact H | (rw [hy257]; exact H) | exact H
   have Ny257 := Aside0.mk hy257
   clear hy257
   obtain ⟨y260, hy260⟩ : ∃ y_ : List Int, y_ = (([2, 3] : List Int)) := ⟨_, rfl⟩
   replace H : ((infer_Node.f k 50 ([] : List Int) y257 (([y260] : List (List Int)))).bind fun bt266 => (if (t230.length : Int) = 3 then (if 2 < (t230.length : Int) then ((fullerref02_Same.f k (rd_L1 t230 2) (([2, 2] : List Int))).bind fun t274 => (if t274 = true then (if t233 = (-1) then (if t234 = 0 then (if t250 = 3 then (if t251 = 20 then (if t255 = (-1) then (if t256 = 100 then ((fullerref02_Same.f k bt266.1 (([3] : List Int))).bind fun t278 => (if t278 = true then (if bt266.2 = 0 then (some true) else (none)) else (none))) else (none)) else (none)) else (none)) else (none)) else (none)) else (none)) else (none))) else (none)) else (none))) = some r := by first | (rw [hy260]; with_reducible exact H) | (have H2_ := (Option.bind_some _ _).symm.trans H; rw [hy260]; with_reducible exact H2_) | (have H2_ := (Option.bind_some _ _).symm.trans H; with_reducible exact H2_) | with_reducible exact H | (rw [hy260]; exact H) | exact H
   have Ny260 := Aside0.mk hy260
   clear hy260
   obtain ⟨y263, hy263⟩ : ∃ y_ : List (List Int), y_ = (([y260] : List (List Int))) := ⟨_, rfl⟩
   replace H : ((infer_Node.f k 50 ([] : List Int) y257 y263).bind fun bt266 => (if (t230.length : Int) = 3 then (if 2 < (t230.length : Int) then ((fullerref02_Same.f k (rd_L1 t230 2) (([2, 2] : List Int))).bind fun t274 => (if t274 = true then (if t233 = (-1) then (if t234 = 0 then (if t250 = 3 then (if t251 = 20 then (if t255 = (-1) then (if t256 = 100 then ((fullerref02_Same.f k bt266.1 (([3] : List Int))).bind fun t278 => (if t278 = true then (if bt266.2 = 0 then (some true) else (none)) else (none))) else (none)) else (none)) else (none)) else (none)) else (none)) else (none)) else (none))) else (none)) else (none))) = some r := by first | (rw [hy263]; with_reducible exact H) | (have H2_ := (Option.bind_some _ _).symm.trans H; rw [hy263]; with_reducible exact H2_) | (have H2_ := (Option.bind_some _ _).symm.trans H; with_reducible exact H2_) | with_reducible exact H | (rw [hy263]; exact H) | exact H
   have Ny263 := Aside0.mk hy263
   clear hy263
   replace H := Option.bind_eq_some_iff.mp H
   obtain ⟨⟨t266, t269⟩, A60, H⟩ := H
   replace H : (if (t230.length : Int) = 3 then (if 2 < (t230.length : Int) then ((fullerref02_Same.f k (rd_L1 t230 2) (([2, 2] : List Int))).bind fun t274 => (if t274 = true then (if t233 = (-1) then (if t234 = 0 then (if t250 = 3 then (if t251 = 20 then (if t255 = (-1) then (if t256 = 100 then ((fullerref02_Same.f k t266 (([3] : List Int))).bind fun t278 => (if t278 = true then (if t269 = 0 then (some true) else (none)) else (none))) else (none)) else (none)) else (none)) else (none)) else (none)) else (none)) else (none))) else (none)) else (none)) = some r := H
   have A6 := Aside0.mk A60
   clear A60
   by_cases c7 : (t230.length : Int) = 3
   ·rw [if_pos c7] at H
    obtain ⟨c7b0, c7b1⟩ := eqT_ c7
    clear c7
    by_cases c8 : 2 < (t230.length : Int)
    ·rw [if_pos c8] at H
     have c8b0 : decide (2 < (t230.length : Int)) = true := decide_eq_true c8
     have c8b1 : decide (2 < t230.length) = true := decide_eq_true (by omega)
     clear c8
     obtain ⟨y271, hy271⟩ : ∃ y_ : List Int, y_ = (([2, 2] : List Int)) := ⟨_, rfl⟩
     replace H : ((fullerref02_Same.f k (rd_L1 t230 2) y271).bind fun t274 => (if t274 = true then (if t233 = (-1) then (if t234 = 0 then (if t250 = 3 then (if t251 = 20 then (if t255 = (-1) then (if t256 = 100 then ((fullerref02_Same.f k t266 (([3] : List Int))).bind fun t278 => (if t278 = true then (if t269 = 0 then (some true) else (none)) else (none))) else (none)) else (none)) else (none)) else (none)) else (none)) else (none)) else (none))) = some r := by first | (rw [hy271]; with_reducible exact H) | (have H2_ := (Option.bind_some _ _).symm.trans H; rw [hy271]; with_reducible exact H2_) | (have H2_ := (Option.bind_some _ _).symm.trans H; with_reducible exact H2_) | with_reducible exact H | (rw [hy271]; exact H) | exact H
     have Ny271 := Aside0.mk hy271
     clear hy271
     replace H := Option.bind_eq_some_iff.mp H
     obtain ⟨t274, A90, H⟩ := H
     replace H : (if t274 = true then (if t233 = (-1) then (if t234 = 0 then (if t250 = 3 then (if t251 = 20 then (if t255 = (-1) then (if t256 = 100 then ((fullerref02_Same.f k t266 (([3] : List Int))).bind fun t278 => (if t278 = true then (if t269 = 0 then (some true) else (none)) else (none))) else (none)) else (none)) else (none)) else (none)) else (none)) else (none)) else (none)) = some r := H
     have A9 := Aside0.mk A90
     clear A90
     by_cases c10 : t274 = true
     ·subst c10
      have H1 : (if t233 = (-1) then (if t234 = 0 then (if t250 = 3 then (if t251 = 20 then (if t255 = (-1) then (if t256 = 100 then ((fullerref02_Same.f k t266 (([3] : List Int))).bind fun t278 => (if t278 = true then (if t269 = 0 then (some true) else (none)) else (none))) else (none)) else (none)) else (none)) else (none)) else (none)) else (none)) = some r := by rw [if_pos rfl] at H; exact H
      clear H
      have H := H1
      clear H1
      by_cases c11 : t233 = (-1)
      ·rw [if_pos c11] at H
       obtain ⟨c11b0, c11b1⟩ := eqT_ c11
       clear c11
       by_cases c12 : t234 = 0
       ·rw [if_pos c12] at H
        obtain ⟨c12b0, c12b1⟩ := eqT_ c12
        clear c12
        by_cases c13 : t250 = 3
        ·rw [if_pos c13] at H
         obtain ⟨c13b0, c13b1⟩ := eqT_ c13
         clear c13
         by_cases c14 : t251 = 20
         ·rw [if_pos c14] at H
          obtain ⟨c14b0, c14b1⟩ := eqT_ c14
          clear c14
          by_cases c15 : t255 = (-1)
          ·rw [if_pos c15] at H
           obtain ⟨c15b0, c15b1⟩ := eqT_ c15
           clear c15
           by_cases c16 : t256 = 100
           ·rw [if_pos c16] at H
            obtain ⟨c16b0, c16b1⟩ := eqT_ c16
            clear c16
            obtain ⟨y275, hy275⟩ : ∃ y_ : List Int, y_ = (([3] : List Int)) := ⟨_, rfl⟩
            replace H : ((fullerref02_Same.f k t266 y275).bind fun t278 => (if t278 = true then (if t269 = 0 then (some true) else (none)) else (none))) = some r := by first | (rw [hy275]; with_reducible exact H) | (have H2_ := (Option.bind_some _ _).symm.trans H; rw [hy275]; with_reducible exact H2_) | (have H2_ := (Option.bind_some _ _).symm.trans H; with_reducible exact H2_) | with_reducible exact H | (rw [hy275]; exact H) | exact H
            have Ny275 := Aside0.mk hy275
            clear hy275
            replace H := Option.bind_eq_some_iff.mp H
            obtain ⟨t278, A170, H⟩ := H
            replace H : (if t278 = true then (if t269 = 0 then (some true) else (none)) else (none)) = some r := H
            have A17 := Aside0.mk A170
            clear A170
            by_cases c18 : t278 = true
            ·subst c18
             have H1 : (if t269 = 0 then (some true) else (none)) = some r := by rw [if_pos rfl] at H; exact H
             clear H
             have H := H1
             clear H1
             by_cases c19 : t269 = 0
             ·rw [if_pos c19] at H
              obtain ⟨c19b0, c19b1⟩ := eqT_ c19
              clear c19
              obtain rfl := Option.some.inj H
              go_enter Try.func8, Try.ntmps8
              go_wp2_with (first | ((with_reducible refine gate_dst (N := 13) rfl ?_); (try (refine gate_guard (by rfl) ?_; dsimp only)); refine Kd.R_lit (Kd.int .i64) _ 3 ?hg (N := 13) ?hd (xs := ([2, 3] : List Int)) (inner := [.int .i64 2, .int .i64 3]) (ok := fun _ => True) (okp := fun _ => True) ?hr ?hp (fun _ hk => hk) trivial (Below.refl _ _) (Nat.le_refl _) (by simp) ?_; (case hd => rfl); (case hg => rfl); (case hr => first | (go_simp; done) | (go_simp; rfl)); (case hp => exact (Reps.one (show Kd.M (Kd.int .i64) _ _ _ 2 [.int .i64 2] from rfl) (Reps.one (show Kd.M (Kd.int .i64) _ _ _ 3 [.int .i64 3] from rfl) (Reps.none _ _)))); intro v219 w20 ho21 hb hg_ hnew_; clear hg_ hnew_; (first | rw [← Ny218.out] at ho21 | (simp only [Int.reduceToNat] at ho21; rw [← Ny218.out] at ho21)); have HO220 := Aside0.mk (Kd.R_lower ho21 (below_size (bq0_ HB.out))); replace HB := Aside0.mk (below_step (bq0_ HB.out) hb); clear hb ho21; obtain ⟨Ao22, co22, eo22⟩ := Kd.R_slice HO220.out; subst eo22) | ((with_reducible refine gate_dst (N := 15) rfl ?_); (try (refine gate_guard (by rfl) ?_; dsimp only)); refine Kd.R_lit (Kd.int .i64) _ 3 ?hg (N := 15) ?hd (xs := ([0] : List Int)) (inner := [.int .i64 0]) (ok := fun _ => True) (okp := fun _ => True) ?hr ?hp (fun _ hk => hk) trivial (Below.refl _ _) (Nat.le_refl _) (by simp) ?_; (case hd => rfl); (case hg => rfl); (case hr => first | (go_simp; done) | (go_simp; rfl)); (case hp => exact (Reps.one (show Kd.M (Kd.int .i64) _ _ _ 0 [.int .i64 0] from rfl) (Reps.none _ _))); intro v222 w23 ho24 hb hg_ hnew_; clear hg_ hnew_; (first | rw [← Ny221.out] at ho24 | (simp only [Int.reduceToNat] at ho24; rw [← Ny221.out] at ho24)); have HO223 := Aside0.mk (Kd.R_lower (Kd.R_new' ho24 (Kd.R_lt (mvR_ HO220.out))) (below_size (bq0_ HB.out))); replace HO220 := Aside0.mk (Kd.R_elder' (mvR_ HO220.out) (Kd.R_base ho24) hb); replace HB := Aside0.mk (below_step (bq0_ HB.out) hb); clear hb ho24; obtain ⟨Ao25, co25, eo25⟩ := Kd.R_slice HO223.out; subst eo25) | ((with_reducible refine gate_dst (N := 17) rfl ?_); (try (refine gate_guard (by rfl) ?_; dsimp only)); refine Kd.R_lit (Kd.int .i64) _ 3 ?hg (N := 17) ?hd (xs := ([0, 1] : List Int)) (inner := [.int .i64 0, .int .i64 1]) (ok := fun _ => True) (okp := fun _ => True) ?hr ?hp (fun _ hk => hk) trivial (Below.refl _ _) (Nat.le_refl _) (by simp) ?_; (case hd => rfl); (case hg => rfl); (case hr => first | (go_simp; done) | (go_simp; rfl)); (case hp => exact (Reps.one (show Kd.M (Kd.int .i64) _ _ _ 0 [.int .i64 0] from rfl) (Reps.one (show Kd.M (Kd.int .i64) _ _ _ 1 [.int .i64 1] from rfl) (Reps.none _ _)))); intro v225 w26 ho27 hb hg_ hnew_; clear hg_ hnew_; (first | rw [← Ny224.out] at ho27 | (simp only [Int.reduceToNat] at ho27; rw [← Ny224.out] at ho27)); have HO226 := Aside0.mk (Kd.R_lower (Kd.R_new' (Kd.R_new' ho27 (Kd.R_lt (mvR_ HO220.out))) (Kd.R_lt (mvR_ HO223.out))) (below_size (bq0_ HB.out))); replace HO220 := Aside0.mk (Kd.R_elder' (mvR_ HO220.out) (Kd.R_base ho27) hb); replace HO223 := Aside0.mk (Kd.R_elder' (mvR_ HO223.out) (Kd.R_base ho27) hb); replace HB := Aside0.mk (below_step (bq0_ HB.out) hb); clear hb ho27; obtain ⟨Ao28, co28, eo28⟩ := Kd.R_slice HO226.out; subst eo28) | ((with_reducible refine gate_dst (N := 19) rfl ?_); (try (refine gate_guard (by rfl) ?_; dsimp only)); refine Kd.N_lit k25 _ 25 ?hg (N' := 19) ?hd (xs := ([(⟨1, ([] : List Int), y218⟩ : S25), (⟨41, y221, ([] : List Int)⟩ : S25), (⟨30, y224, ([] : List Int)⟩ : S25)] : List (S25))) (inner := [.int .i64 1, .slice none 0 0, .slice Ao22 y218.length co22, .int .i64 41, .slice Ao25 y221.length co25, .slice none 0 0, .int .i64 30, .slice Ao28 y224.length co28, .slice none 0 0]) (ok := (fun _ => True)) (okp := (fun _ => True)) ?hr ?hp (fun _ hk => hk) ((show ∀ k_, w26.heap.size ≤ k_ → (fun _ => True) k_ from fun k_ hk => trivial) _ (Nat.le_refl _)) (Below.refl _ _) (Nat.le_refl _) (by simp) ?_; (case hd => rfl); (case hg => rfl); (case hr => first | (go_simp; done) | (go_simp; rfl)); (case hp => exact (Reps.c3 (show Kd.FK k25 _ _ (⟨1, ([] : List Int), y218⟩ : S25) [.int .i64 1, .slice none 0 0, .slice Ao22 y218.length co22] from (k25_mkF _ _ (⟨1, ([] : List Int), y218⟩ : S25) (Nat.le_refl _) (Kd.F_nil _ _ _) (Kd.R_reads' (Kd.R_mono (ok' := (fun _ => True)) (HO220.out) (fun k_ hk => trivial))).2.1 (Kd.R_F (Kd.R_mono (ok' := (fun _ => True)) (HO220.out) (fun k_ hk => trivial))))) (Reps.c3 (show Kd.FK k25 _ _ (⟨41, y221, ([] : List Int)⟩ : S25) [.int .i64 41, .slice Ao25 y221.length co25, .slice none 0 0] from (k25_mkF _ _ (⟨41, y221, ([] : List Int)⟩ : S25) (Kd.R_reads' (Kd.R_mono (ok' := (fun _ => True)) (HO223.out) (fun k_ hk => trivial))).2.1 (Kd.R_F (Kd.R_mono (ok' := (fun _ => True)) (HO223.out) (fun k_ hk => trivial))) (Nat.le_refl _) (Kd.F_nil _ _ _))) (Reps.c3 (show Kd.FK k25 _ _ (⟨30, y224, ([] : List Int)⟩ : S25) [.int .i64 30, .slice Ao28 y224.length co28, .slice none 0 0] from (k25_mkF _ _ (⟨30, y224, ([] : List Int)⟩ : S25) (Kd.R_reads' (Kd.R_mono (ok' := (fun _ => True)) (HO226.out) (fun k_ hk => trivial))).2.1 (Kd.R_F (Kd.R_mono (ok' := (fun _ => True)) (HO226.out) (fun k_ hk => trivial))) (Nat.le_refl _) (Kd.F_nil _ _ _))) (Reps.none _ _))))); intro v228 w29 ho30 hb hg_ hnew_; clear hg_ hnew_; (first | rw [← Ny227.out] at ho30 | (simp only [Int.reduceToNat] at ho30; rw [← Ny227.out] at ho30)); have HO229 := Aside0.mk (Kd.N_lower ho30 (below_size (bq0_ HB.out))); replace HB := Aside0.mk (below_step (bq0_ HB.out) hb); clear HO220 HO223 HO226 hb ho30; obtain ⟨Ao31, co31, eo31⟩ := Kd.N_slice HO229.out; subst eo31) | ((with_reducible refine gate_callee (f := 13) rfl ?_); refine gL_ (some 22) Try.func13 #[.slice Ao31 y227.length co31] ?_; (with_reducible refine (infer_Shapes.calls k _ _ y227 t230 t233 t234 _ ?side1 ?side2 A1.out).mono ?_); (case side1 => exact mvC_ ((Kd.N_reads' HO229.out).2.2)); (case side2 => exact (Kd.N_reads' HO229.out).2.1); rintro e w32 ⟨v231, rfl, ho0, hb⟩; refine ⟨_, rfl, ?_⟩; have HO232 := Aside0.mk (Kd.N_lower (Kd.N_mono (ok' := fun k_ => some k_ ≠ (.slice Ao31 y227.length co31 : Value).ownBlock) ho0 (fun k_ hk_ => (Kd.fresh' (Kd.N_lt (mvN_ HO229.out)) k_ hk_))) (below_size (bq0_ HB.out))); replace HO229 := Aside0.mk (Kd.N_elder' (mvN_ HO229.out) (Kd.N_base ho0) hb); replace HB := Aside0.mk (below_step (bq0_ HB.out) hb); (try clear hb); (try clear ho0)) | ((with_reducible refine gate_dst (N := 27) rfl ?_); (try (refine gate_guard (by rfl) ?_; dsimp only)); refine Kd.N_lit k25 _ 25 ?hg (N' := 27) ?hd (xs := ([] : List (S25))) (inner := []) (ok := (fun k_ => some k_ ≠ (.slice Ao31 y227.length co31 : Value).ownBlock ∧ some k_ ≠ (v231 : Value).ownBlock)) (okp := (fun k_ => some k_ ≠ (.slice Ao31 y227.length co31 : Value).ownBlock ∧ some k_ ≠ (v231 : Value).ownBlock)) ?hr ?hp (fun _ hk => hk) ((show ∀ k_, w32.heap.size ≤ k_ → (fun k_ => some k_ ≠ (.slice Ao31 y227.length co31 : Value).ownBlock ∧ some k_ ≠ (v231 : Value).ownBlock) k_ from fun k_ hk => ⟨Kd.fresh' (Kd.N_lt (mvN_ HO229.out)) k_ hk, Kd.fresh' (Kd.N_lt (mvN_ HO232.out)) k_ hk⟩) _ (Nat.le_refl _)) (Below.refl _ _) (Nat.le_refl _) (by simp) ?_; (case hd => rfl); (case hg => rfl); (case hr => first | (go_simp; done) | (go_simp; rfl)); (case hp => exact (Reps.none _ _)); intro v236 w33 ho34 hb hg_ hnew_; clear hg_ hnew_; (first | rw [← Ny235.out] at ho34 | (simp only [Int.reduceToNat] at ho34; rw [← Ny235.out] at ho34)); have HO237 := Aside0.mk (Kd.N_lower ho34 (below_size (bq0_ HB.out))); replace HO229 := Aside0.mk (Kd.N_elder' (mvN_ HO229.out) (Kd.N_base ho34) hb); replace HO232 := Aside0.mk (Kd.N_elder' (mvN_ HO232.out) (Kd.N_base ho34) hb); replace HB := Aside0.mk (below_step (bq0_ HB.out) hb); clear hb ho34) | ((with_reducible refine gate_builtin (b := .append) (xs := #[.tmp 27, .tmp 28]) rfl ?_); (try (refine gate_guard (by rfl) ?_; dsimp only)); at_builtin; refine Kd.N_append_rows k25 (w0 := w) w.heap.size rfl (.tmp 27) (.tmp 28) 22 25 (.agg #[(.int .i64 0), (.slice none 0 0), (.slice none 0 0)]) 56 rfl Try.underlying22 info25 rfl (by decide) (by omega) v236 y235 y227 _ _ _ (fun k_ => some k_ ≠ (v231 : Value).ownBlock) (fun k_ => ((fun k_ => some k_ ≠ (v231 : Value).ownBlock)) k_ ∧ some k_ ≠ (v236 : Value).ownBlock) rfl rfl ?aO ?aR (fun _ hk => hk) ?aF ?aB ?aS ?aL ?_; (case aR => exact (by skip; exact Kd.N_F (Kd.N_mono (ok' := (fun k_ => ((fun k_ => some k_ ≠ (v231 : Value).ownBlock)) k_ ∧ some k_ ≠ (v236 : Value).ownBlock)) (HO229.out) (fun k_ hk => ⟨hk.1.2, hk.2⟩)))); (case aB => exact (bq0_ HB.out)); (case aF => exact (fun k_ hk => Kd.fresh' (Kd.N_lt (mvN_ HO232.out)) k_ hk)); (case aO => exact (by (with_reducible repeat (first | apply Kd.N_alloc | apply Kd.N_drewN | apply Kd.N_drew)); exact Kd.N_mono HO237.out (fun _ hk => hk.2))); (case aS => exact (below_size (bq0_ HB.out))); (case aL => have := LMc2.out; omega); intro v239 w35 ho hb hg hat; rw [← Ny238.out] at ho; have HO240 := Aside0.mk (ho); replace HO229 := Aside0.mk (Kd.N_afterv (ok := (fun k_ => some k_ ≠ (v231 : Value).ownBlock)) (by (with_reducible repeat (first | apply Kd.N_alloc | apply Kd.N_drewN | apply Kd.N_drew)); exact Kd.N_mono HO229.out (fun _ hk => ⟨hk.1.2, hk.2⟩)) hg hat); replace HO232 := Aside0.mk (Kd.N_afterv (ok := (fun k_ => some k_ ≠ (.slice Ao31 y227.length co31 : Value).ownBlock)) (mvN_ HO232.out) hg hat); replace HB := Aside0.mk (hb); clear HO237 ho hb hg hat) | ((with_reducible refine gate_dst (N := 30) rfl ?_); (try (refine gate_guard (by rfl) ?_; dsimp only)); refine Kd.R_lit (Kd.int .i64) _ 3 ?hg (N := 30) ?hd (xs := ([0, 1] : List Int)) (inner := [.int .i64 0, .int .i64 1]) (ok := fun _ => True) (okp := fun _ => True) ?hr ?hp (fun _ hk => hk) trivial (Below.refl _ _) (Nat.le_refl _) (by simp) ?_; (case hd => rfl); (case hg => rfl); (case hr => first | (go_simp; done) | (go_simp; rfl)); (case hp => exact (Reps.one (show Kd.M (Kd.int .i64) _ _ _ 0 [.int .i64 0] from rfl) (Reps.one (show Kd.M (Kd.int .i64) _ _ _ 1 [.int .i64 1] from rfl) (Reps.none _ _)))); intro v242 w36 ho37 hb hg_ hnew_; clear hg_ hnew_; (first | rw [← Ny241.out] at ho37 | (simp only [Int.reduceToNat] at ho37; rw [← Ny241.out] at ho37)); have HO243 := Aside0.mk (Kd.R_lower ho37 (below_size (bq0_ HB.out))); replace HO229 := Aside0.mk (Kd.N_elder' (mvN_ HO229.out) (Kd.R_base ho37) hb); replace HO232 := Aside0.mk (Kd.N_elder' (mvN_ HO232.out) (Kd.R_base ho37) hb); replace HO240 := Aside0.mk (Kd.N_elder' (mvN_ HO240.out) (Kd.R_base ho37) hb); replace HB := Aside0.mk (below_step (bq0_ HB.out) hb); clear hb ho37; obtain ⟨Ao38, co38, eo38⟩ := Kd.R_slice HO243.out; subst eo38) | ((with_reducible refine gate_builtin (b := .append) (xs := #[.tmp 29, .tmp 32]) rfl ?_); (try (refine gate_guard (by rfl) ?_; dsimp only)); at_builtin; refine Kd.N_append k25 (w0 := w) w.heap.size rfl (.tmp 29) (.tmp 32) 22 25 (.agg #[(.int .i64 0), (.slice none 0 0), (.slice none 0 0)]) 56 rfl Try.underlying22 info25 rfl (by decide) (by omega) v239 y238 (⟨10, y241, ([] : List Int)⟩ : S25) [.int .i64 10, .slice Ao38 y241.length co38, .slice none 0 0] (fun k_ => some k_ ≠ (v231 : Value).ownBlock) (fun k_ => ((fun k_ => some k_ ≠ (v231 : Value).ownBlock)) k_ ∧ some k_ ≠ (v239 : Value).ownBlock) rfl rfl ?aP (fun _ hk => hk) ?aF ?aO ?aB ?aS ?aL ?_; (case aP => exact (k25_mkF _ _ (⟨10, y241, ([] : List Int)⟩ : S25) (Kd.R_reads' (Kd.R_mono (ok' := (fun k_ => ((fun k_ => some k_ ≠ (v231 : Value).ownBlock)) k_ ∧ some k_ ≠ (v239 : Value).ownBlock)) (Kd.R_apart' (Kd.R_apart' (HO243.out) (Kd.N_typed HO232.out) (by decide)) (Kd.N_typed HO240.out) (by decide)) (fun k_ hk => ⟨hk.1.2, hk.2⟩))).2.1 (Kd.R_F (Kd.R_mono (ok' := (fun k_ => ((fun k_ => some k_ ≠ (v231 : Value).ownBlock)) k_ ∧ some k_ ≠ (v239 : Value).ownBlock)) (Kd.R_apart' (Kd.R_apart' (HO243.out) (Kd.N_typed HO232.out) (by decide)) (Kd.N_typed HO240.out) (by decide)) (fun k_ hk => ⟨hk.1.2, hk.2⟩))) (Nat.le_refl _) (Kd.F_nil _ _ _))); (case aB => exact (bq0_ HB.out)); (case aF => exact (fun k_ hk => Kd.fresh' (Kd.N_lt (mvN_ HO232.out)) k_ hk)); (case aO => exact (by (with_reducible repeat (first | apply Kd.N_alloc | apply Kd.N_drewN | apply Kd.N_drew)); exact Kd.N_mono HO240.out (fun _ hk => hk.1))); (case aS => exact (below_size (bq0_ HB.out))); (case aL => have := LMc3.out; omega); intro v245 w39 ho hb hg hat; rw [← Ny244.out] at ho; have HO246 := Aside0.mk (ho); replace HO229 := Aside0.mk (Kd.N_afterv (ok := (fun k_ => some k_ ≠ (v231 : Value).ownBlock ∧ some k_ ≠ (.slice Ao38 y241.length co38 : Value).ownBlock)) (by (with_reducible repeat (first | apply Kd.N_alloc | apply Kd.N_drewN | apply Kd.N_drew)); exact Kd.N_mono HO229.out (fun _ hk => ⟨⟨hk.1.1, hk.2⟩, hk.1.2⟩)) hg hat); replace HO232 := Aside0.mk (Kd.N_afterv (ok := (fun k_ => some k_ ≠ (.slice Ao31 y227.length co31 : Value).ownBlock ∧ some k_ ≠ (.slice Ao38 y241.length co38 : Value).ownBlock)) (by (with_reducible repeat (first | apply Kd.N_alloc | apply Kd.N_drewN | apply Kd.N_drew)); exact Kd.N_mono HO232.out (fun _ hk => ⟨⟨hk.1.1, hk.2⟩, hk.1.2⟩)) hg hat); replace HB := Aside0.mk (hb); clear HO240 HO243 ho hb hg hat; obtain ⟨Ao40, co40, eo40⟩ := Kd.N_slice HO246.out; subst eo40) | ((with_reducible refine gate_callee (f := 13) rfl ?_); refine gL_ (some 34) Try.func13 #[.slice Ao40 y244.length co40] ?_; (with_reducible refine (infer_Shapes.calls k _ _ y244 t247 t250 t251 _ ?side1 ?side2 A4.out).mono ?_); (case side1 => exact mvC_ ((Kd.N_reads' HO246.out).2.2)); (case side2 => exact (Kd.N_reads' HO246.out).2.1); rintro e w41 ⟨v248, rfl, ho0, hb⟩; refine ⟨_, rfl, ?_⟩; have HO249 := Aside0.mk (Kd.N_lower (Kd.N_mono (ok' := fun k_ => some k_ ≠ (.slice Ao31 y227.length co31 : Value).ownBlock ∧ some k_ ≠ (v231 : Value).ownBlock ∧ some k_ ≠ (.slice Ao40 y244.length co40 : Value).ownBlock) ho0 (fun k_ hk_ => ⟨(Kd.fresh' (Kd.N_lt (mvN_ HO229.out)) k_ hk_), (Kd.fresh' (Kd.N_lt (mvN_ HO232.out)) k_ hk_), (Kd.fresh' (Kd.N_lt (mvN_ HO246.out)) k_ hk_)⟩)) (below_size (bq0_ HB.out))); replace HO229 := Aside0.mk (Kd.N_elder' (mvN_ HO229.out) (Kd.N_base ho0) hb); replace HO232 := Aside0.mk (Kd.N_elder' (mvN_ HO232.out) (Kd.N_base ho0) hb); replace HO246 := Aside0.mk (Kd.N_elder' (mvN_ HO246.out) (Kd.N_base ho0) hb); replace HB := Aside0.mk (below_step (bq0_ HB.out) hb); (try clear hb); (try clear ho0)) | ((with_reducible refine gate_callee (f := 13) rfl ?_); refine gL_ (some 39) Try.func13 #[.slice none 0 0] ?_; (refine (infer_Shapes.calls k _ _ ([] : List (S25)) t252 t255 t256 _ ?side1 ?side2 A5.out).mono ?_); (case side1 => exact Kd.C_nil _ _); (case side2 => exact Nat.le_refl _); rintro e w42 ⟨v253, rfl, ho0, hb⟩; refine ⟨_, rfl, ?_⟩; have HO254 := Aside0.mk (Kd.N_lower (Kd.N_mono (ok' := fun k_ => some k_ ≠ (.slice Ao31 y227.length co31 : Value).ownBlock ∧ some k_ ≠ (v231 : Value).ownBlock ∧ some k_ ≠ (.slice Ao40 y244.length co40 : Value).ownBlock ∧ some k_ ≠ (v248 : Value).ownBlock) ho0 (fun k_ hk_ => ⟨(Kd.fresh' (Kd.N_lt (mvN_ HO229.out)) k_ hk_), (Kd.fresh' (Kd.N_lt (mvN_ HO232.out)) k_ hk_), (Kd.fresh' (Kd.N_lt (mvN_ HO246.out)) k_ hk_), (Kd.fresh' (Kd.N_lt (mvN_ HO249.out)) k_ hk_)⟩)) (below_size (bq0_ HB.out))); replace HO229 := Aside0.mk (Kd.N_elder' (mvN_ HO229.out) (Kd.N_base ho0) hb); replace HO232 := Aside0.mk (Kd.N_elder' (mvN_ HO232.out) (Kd.N_base ho0) hb); replace HO246 := Aside0.mk (Kd.N_elder' (mvN_ HO246.out) (Kd.N_base ho0) hb); replace HO249 := Aside0.mk (Kd.N_elder' (mvN_ HO249.out) (Kd.N_base ho0) hb); replace HB := Aside0.mk (below_step (bq0_ HB.out) hb); (try clear hb); (try clear ho0)) | ((with_reducible refine gate_dst (N := 44) rfl ?_); (try (refine gate_guard (by rfl) ?_; dsimp only)); refine Kd.R_lit (Kd.int .i64) _ 3 ?hg (N := 44) ?hd (xs := ([0] : List Int)) (inner := [.int .i64 0]) (ok := fun _ => True) (okp := fun _ => True) ?hr ?hp (fun _ hk => hk) trivial (Below.refl _ _) (Nat.le_refl _) (by simp) ?_; (case hd => rfl); (case hg => rfl); (case hr => first | (go_simp; done) | (go_simp; rfl)); (case hp => exact (Reps.one (show Kd.M (Kd.int .i64) _ _ _ 0 [.int .i64 0] from rfl) (Reps.none _ _))); intro v258 w43 ho44 hb hg_ hnew_; clear hg_ hnew_; (first | rw [← Ny257.out] at ho44 | (simp only [Int.reduceToNat] at ho44; rw [← Ny257.out] at ho44)); have HO259 := Aside0.mk (Kd.R_lower ho44 (below_size (bq0_ HB.out))); replace HO229 := Aside0.mk (Kd.N_elder' (mvN_ HO229.out) (Kd.R_base ho44) hb); replace HO232 := Aside0.mk (Kd.N_elder' (mvN_ HO232.out) (Kd.R_base ho44) hb); replace HO246 := Aside0.mk (Kd.N_elder' (mvN_ HO246.out) (Kd.R_base ho44) hb); replace HO249 := Aside0.mk (Kd.N_elder' (mvN_ HO249.out) (Kd.R_base ho44) hb); replace HO254 := Aside0.mk (Kd.N_elder' (mvN_ HO254.out) (Kd.R_base ho44) hb); replace HB := Aside0.mk (below_step (bq0_ HB.out) hb); clear hb ho44; obtain ⟨Ao45, co45, eo45⟩ := Kd.R_slice HO259.out; subst eo45) | ((with_reducible refine gate_dst (N := 46) rfl ?_); (try (refine gate_guard (by rfl) ?_; dsimp only)); refine Kd.R_lit (Kd.int .i64) _ 3 ?hg (N := 46) ?hd (xs := ([2, 3] : List Int)) (inner := [.int .i64 2, .int .i64 3]) (ok := fun _ => True) (okp := fun _ => True) ?hr ?hp (fun _ hk => hk) trivial (Below.refl _ _) (Nat.le_refl _) (by simp) ?_; (case hd => rfl); (case hg => rfl); (case hr => first | (go_simp; done) | (go_simp; rfl)); (case hp => exact (Reps.one (show Kd.M (Kd.int .i64) _ _ _ 2 [.int .i64 2] from rfl) (Reps.one (show Kd.M (Kd.int .i64) _ _ _ 3 [.int .i64 3] from rfl) (Reps.none _ _)))); intro v261 w46 ho47 hb hg_ hnew_; clear hg_ hnew_; (first | rw [← Ny260.out] at ho47 | (simp only [Int.reduceToNat] at ho47; rw [← Ny260.out] at ho47)); have HO262 := Aside0.mk (Kd.R_lower (Kd.R_new' ho47 (Kd.R_lt (mvR_ HO259.out))) (below_size (bq0_ HB.out))); replace HO229 := Aside0.mk (Kd.N_elder' (mvN_ HO229.out) (Kd.R_base ho47) hb); replace HO232 := Aside0.mk (Kd.N_elder' (mvN_ HO232.out) (Kd.R_base ho47) hb); replace HO246 := Aside0.mk (Kd.N_elder' (mvN_ HO246.out) (Kd.R_base ho47) hb); replace HO249 := Aside0.mk (Kd.N_elder' (mvN_ HO249.out) (Kd.R_base ho47) hb); replace HO254 := Aside0.mk (Kd.N_elder' (mvN_ HO254.out) (Kd.R_base ho47) hb); replace HO259 := Aside0.mk (Kd.R_elder' (mvR_ HO259.out) (Kd.R_base ho47) hb); replace HB := Aside0.mk (below_step (bq0_ HB.out) hb); clear hb ho47; obtain ⟨Ao48, co48, eo48⟩ := Kd.R_slice HO262.out; subst eo48) | ((with_reducible refine gate_dst (N := 47) rfl ?_); (try (refine gate_guard (by rfl) ?_; dsimp only)); refine Kd.N_lit (Kd.slice 3 (Kd.int .i64)) _ 23 ?hg (N' := 47) ?hd (xs := ([y260] : List (List Int))) (inner := [.slice Ao48 y260.length co48]) (ok := (fun k_ => some k_ ≠ (.slice Ao31 y227.length co31 : Value).ownBlock ∧ some k_ ≠ (v231 : Value).ownBlock ∧ some k_ ≠ (.slice Ao40 y244.length co40 : Value).ownBlock ∧ some k_ ≠ (v248 : Value).ownBlock ∧ some k_ ≠ (v253 : Value).ownBlock ∧ some k_ ≠ (.slice Ao45 y257.length co45 : Value).ownBlock)) (okp := (fun k_ => some k_ ≠ (.slice Ao31 y227.length co31 : Value).ownBlock ∧ some k_ ≠ (v231 : Value).ownBlock ∧ some k_ ≠ (.slice Ao40 y244.length co40 : Value).ownBlock ∧ some k_ ≠ (v248 : Value).ownBlock ∧ some k_ ≠ (v253 : Value).ownBlock ∧ some k_ ≠ (.slice Ao45 y257.length co45 : Value).ownBlock)) ?hr ?hp (fun _ hk => hk) ((show ∀ k_, w46.heap.size ≤ k_ → (fun k_ => some k_ ≠ (.slice Ao31 y227.length co31 : Value).ownBlock ∧ some k_ ≠ (v231 : Value).ownBlock ∧ some k_ ≠ (.slice Ao40 y244.length co40 : Value).ownBlock ∧ some k_ ≠ (v248 : Value).ownBlock ∧ some k_ ≠ (v253 : Value).ownBlock ∧ some k_ ≠ (.slice Ao45 y257.length co45 : Value).ownBlock) k_ from fun k_ hk => ⟨Kd.fresh' (Kd.N_lt (mvN_ HO229.out)) k_ hk, Kd.fresh' (Kd.N_lt (mvN_ HO232.out)) k_ hk, Kd.fresh' (Kd.N_lt (mvN_ HO246.out)) k_ hk, Kd.fresh' (Kd.N_lt (mvN_ HO249.out)) k_ hk, Kd.fresh' (Kd.N_lt (mvN_ HO254.out)) k_ hk, Kd.fresh' (Kd.R_lt (mvR_ HO259.out)) k_ hk⟩) _ (Nat.le_refl _)) (Below.refl _ _) (Nat.le_refl _) (by simp) ?_; (case hd => rfl); (case hg => rfl); (case hr => first | (go_simp; done) | (go_simp; rfl)); (case hp => exact (Reps.one (show Kd.FK (Kd.slice 3 (Kd.int .i64)) _ _ y260 [.slice Ao48 y260.length co48] from (Kd.FK_slice_mk (Kd.R_reads' (Kd.R_mono (ok' := (fun k_ => some k_ ≠ (.slice Ao31 y227.length co31 : Value).ownBlock ∧ some k_ ≠ (v231 : Value).ownBlock ∧ some k_ ≠ (.slice Ao40 y244.length co40 : Value).ownBlock ∧ some k_ ≠ (v248 : Value).ownBlock ∧ some k_ ≠ (v253 : Value).ownBlock ∧ some k_ ≠ (.slice Ao45 y257.length co45 : Value).ownBlock)) (Kd.R_apart' (Kd.R_apart' (Kd.R_apart' (Kd.R_apart' (Kd.R_apart' (HO262.out) (Kd.N_typed HO229.out) (by decide)) (Kd.N_typed HO232.out) (by decide)) (Kd.N_typed HO246.out) (by decide)) (Kd.N_typed HO249.out) (by decide)) (Kd.N_typed HO254.out) (by decide)) (fun k_ hk => ⟨hk.1.1.1.1.2, ⟨hk.1.1.1.2, ⟨hk.1.1.2, ⟨hk.1.2, ⟨hk.2, hk.1.1.1.1.1.2⟩⟩⟩⟩⟩))).2.1 (Kd.R_F (Kd.R_mono (ok' := (fun k_ => some k_ ≠ (.slice Ao31 y227.length co31 : Value).ownBlock ∧ some k_ ≠ (v231 : Value).ownBlock ∧ some k_ ≠ (.slice Ao40 y244.length co40 : Value).ownBlock ∧ some k_ ≠ (v248 : Value).ownBlock ∧ some k_ ≠ (v253 : Value).ownBlock ∧ some k_ ≠ (.slice Ao45 y257.length co45 : Value).ownBlock)) (Kd.R_apart' (Kd.R_apart' (Kd.R_apart' (Kd.R_apart' (Kd.R_apart' (HO262.out) (Kd.N_typed HO229.out) (by decide)) (Kd.N_typed HO232.out) (by decide)) (Kd.N_typed HO246.out) (by decide)) (Kd.N_typed HO249.out) (by decide)) (Kd.N_typed HO254.out) (by decide)) (fun k_ hk => ⟨hk.1.1.1.1.2, ⟨hk.1.1.1.2, ⟨hk.1.1.2, ⟨hk.1.2, ⟨hk.2, hk.1.1.1.1.1.2⟩⟩⟩⟩⟩))))) (Reps.none _ _))); intro v264 w49 ho50 hb hg_ hnew_; clear hg_ hnew_; (first | rw [← Ny263.out] at ho50 | (simp only [Int.reduceToNat] at ho50; rw [← Ny263.out] at ho50)); have HO265 := Aside0.mk (Kd.N_lower ho50 (below_size (bq0_ HB.out))); replace HO229 := Aside0.mk (Kd.N_elder' (mvN_ HO229.out) (Kd.N_base ho50) hb); replace HO232 := Aside0.mk (Kd.N_elder' (mvN_ HO232.out) (Kd.N_base ho50) hb); replace HO246 := Aside0.mk (Kd.N_elder' (mvN_ HO246.out) (Kd.N_base ho50) hb); replace HO249 := Aside0.mk (Kd.N_elder' (mvN_ HO249.out) (Kd.N_base ho50) hb); replace HO254 := Aside0.mk (Kd.N_elder' (mvN_ HO254.out) (Kd.N_base ho50) hb); replace HO259 := Aside0.mk (Kd.R_below (mvR_ HO259.out) hb); replace HB := Aside0.mk (below_step (bq0_ HB.out) hb); clear HO262 hb ho50; obtain ⟨Ao51, co51, eo51⟩ := Kd.N_slice HO265.out; subst eo51) | ((with_reducible refine gate_callee (f := 11) rfl ?_); refine gL_ (some 48) Try.func11 #[.agg #[.int .i64 50, .slice none 0 0, .slice Ao45 y257.length co45], .slice Ao51 y263.length co51] ?_; (refine (infer_Node.calls k 50 _ _ ([] : List Int) _ _ y257 _ _ y263 t266 t269 _ ?side1 ?side2 ?side3 ?side4 ?side5 ?side6 A6.out).mono ?_); (case side1 => exact Kd.C_nil _ _); (case side2 => exact Nat.le_refl _); (case side3 => exact mvC_ ((Kd.R_reads' HO259.out).2.2)); (case side4 => exact (Kd.R_reads' HO259.out).2.1); (case side5 => exact mvC_ ((Kd.N_reads' HO265.out).2.2)); (case side6 => exact (Kd.N_reads' HO265.out).2.1); rintro e w52 ⟨v267, rfl, ho0, hb⟩; refine ⟨_, rfl, ?_⟩; have HO268 := Aside0.mk (Kd.R_lower (Kd.R_new' ho0 (Kd.R_lt (mvR_ HO259.out))) (below_size (bq0_ HB.out))); replace HO229 := Aside0.mk (Kd.N_elder' (mvN_ HO229.out) (Kd.R_base ho0) hb); replace HO232 := Aside0.mk (Kd.N_elder' (mvN_ HO232.out) (Kd.R_base ho0) hb); replace HO246 := Aside0.mk (Kd.N_elder' (mvN_ HO246.out) (Kd.R_base ho0) hb); replace HO249 := Aside0.mk (Kd.N_elder' (mvN_ HO249.out) (Kd.R_base ho0) hb); replace HO254 := Aside0.mk (Kd.N_elder' (mvN_ HO254.out) (Kd.R_base ho0) hb); replace HO259 := Aside0.mk (Kd.R_elder' (mvR_ HO259.out) (Kd.R_base ho0) hb); replace HO265 := Aside0.mk (Kd.N_elder' (mvN_ HO265.out) (Kd.R_base ho0) hb); replace HB := Aside0.mk (below_step (bq0_ HB.out) hb); (try clear hb); (try clear ho0); obtain ⟨Ao53, co53, eo53⟩ := Kd.N_slice HO232.out; subst eo53; have p270 : 0 ≤ (2 : Int) := (by omega); have q270 : 2 < (t230.length : Int) := od_; obtain ⟨ad270, A270_0, c270_0, e270, hx270_0, hl270_0, hi270_0⟩ := at_L1 (Kd.N_reads' HO232.out).2.2 2 p270 q270; cases e270; obtain ⟨ce270, hce270, hMe270, hcc270⟩ := Kd.N_get HO232.out [] 2 p270 (by first | exact q270 | exact od_ | (have e_ := (Kd.N_reads' HO232.out).1; omega)); obtain ⟨ua270_0, uc270_0, rfl, ul270_0, ge270_0⟩ := Kd.FK_slice_open hMe270; have hv270_0 := hcc270 0 _ rfl; rw [Nat.add_zero, show ((Kd.slice 3 (Kd.int .i64))).sz = 1 from rfl, Nat.mul_one] at hv270_0; replace hv270_0 := Option.some.inj (hv270_0.symm.trans hx270_0); injection hv270_0 with hva_ hvn_ hvc_; rw [hva_] at ge270_0; rw [hvc_] at ul270_0; have HL270_0 := Aside0.mk (show Kd.V (Kd.int .i64) 3 _ w.heap.size _ _ (rd_L1 t230 2) from Kd.V_mk ul270_0 ge270_0); clear hva_ hvn_ hvc_ ge270_0 ul270_0; clear hcc270 hce270; (try simp only [show (2 : Int).toNat = 2 from rfl, Nat.reduceMul, Nat.reduceEqDiff, Go.Addr.add, ↓reduceIte] at hx270_0); have qi270 : (2 < t230.length) = True := eq_true (by omega); (try rw [show ((2 : Int)).toNat = 2 from rfl] at hx270_0); have HR270_0 := Aside0.mk hi270_0; have HC270_0 := Aside0.mk hl270_0; clear hi270_0 hl270_0; replace p270 := eq_true p270; replace q270 := eq_true q270) | ((with_reducible refine gate_dst (N := 58) rfl ?_); (try (refine gate_guard (by rfl) ?_; dsimp only)); refine Kd.R_lit (Kd.int .i64) _ 3 ?hg (N := 58) ?hd (xs := ([2, 2] : List Int)) (inner := [.int .i64 2, .int .i64 2]) (ok := fun _ => True) (okp := fun _ => True) ?hr ?hp (fun _ hk => hk) trivial (Below.refl _ _) (Nat.le_refl _) (by simp) ?_; (case hd => rfl); (case hg => rfl); (case hr => first | (go_simp; done) | (go_simp; rfl)); (case hp => exact (Reps.one (show Kd.M (Kd.int .i64) _ _ _ 2 [.int .i64 2] from rfl) (Reps.one (show Kd.M (Kd.int .i64) _ _ _ 2 [.int .i64 2] from rfl) (Reps.none _ _)))); intro v272 w54 ho55 hb hg_ hnew_; clear hg_ hnew_; (first | rw [← Ny271.out] at ho55 | (simp only [Int.reduceToNat] at ho55; rw [← Ny271.out] at ho55)); have HO273 := Aside0.mk (Kd.R_lower (Kd.R_new' (Kd.R_new' ho55 (Kd.R_lt (mvR_ HO259.out))) (Kd.R_lt (mvR_ HO268.out))) (below_size (bq0_ HB.out))); replace HO229 := Aside0.mk (Kd.N_elder' (mvN_ HO229.out) (Kd.R_base ho55) hb); replace HO232 := Aside0.mk (Kd.N_elder' (mvN_ HO232.out) (Kd.R_base ho55) hb); replace HO246 := Aside0.mk (Kd.N_elder' (mvN_ HO246.out) (Kd.R_base ho55) hb); replace HO249 := Aside0.mk (Kd.N_elder' (mvN_ HO249.out) (Kd.R_base ho55) hb); replace HO254 := Aside0.mk (Kd.N_elder' (mvN_ HO254.out) (Kd.R_base ho55) hb); replace HO259 := Aside0.mk (Kd.R_elder' (mvR_ HO259.out) (Kd.R_base ho55) hb); replace HO265 := Aside0.mk (Kd.N_elder' (mvN_ HO265.out) (Kd.R_base ho55) hb); replace HO268 := Aside0.mk (Kd.R_elder' (mvR_ HO268.out) (Kd.R_base ho55) hb); replace HL270_0 := Aside0.mk (Kd.V_elder' (mvV_ HL270_0.out) (Kd.R_base ho55) hb); replace HR270_0 := Aside0.mk (Kd.C_below (by repeat (first | (with_reducible exact HR270_0.out) | (with_reducible refine Kd.C_alloc ?_ _) | (with_reducible refine Kd.C_drewN ?_ _) | (with_reducible refine Kd.C_drew ?_) | exact HR270_0.out)) hb); replace HB := Aside0.mk (below_step (bq0_ HB.out) hb); clear hb ho55; obtain ⟨Ao56, co56, eo56⟩ := Kd.R_slice HO273.out; subst eo56) | (go_at_call 15; (with_reducible refine (fullerref02_Same.calls k _ _ (rd_L1 t230 2) _ _ y271 true _ ?side1 ?side2 ?side3 ?side4 A9.out).mono ?_); (case side1 => repeat (first | exact (by repeat (first | (with_reducible exact HR270_0.out) | (with_reducible refine Kd.C_alloc ?_ _) | (with_reducible refine Kd.C_drewN ?_ _) | (with_reducible refine Kd.C_drew ?_) | exact HR270_0.out)) | (with_reducible refine Kd.C_alloc ?_ _) | (with_reducible refine Kd.C_drewN ?_ _) | (with_reducible refine Kd.C_drew ?_))); (case side2 => exact HC270_0.out); (case side3 => exact mvC_ ((Kd.R_reads' HO273.out).2.2)); (case side4 => exact (Kd.R_reads' HO273.out).2.1); rintro e w' ⟨rfl, ⟨nd, rfl⟩⟩) | ((with_reducible refine gate_dst (N := 87) rfl ?_); (try (refine gate_guard (by rfl) ?_; dsimp only)); refine Kd.R_lit (Kd.int .i64) _ 3 ?hg (N := 87) ?hd (xs := ([3] : List Int)) (inner := [.int .i64 3]) (ok := fun _ => True) (okp := fun _ => True) ?hr ?hp (fun _ hk => hk) trivial (Below.refl _ _) (Nat.le_refl _) (by simp) ?_; (case hd => rfl); (case hg => rfl); (case hr => first | (go_simp; done) | (go_simp; rfl)); (case hp => exact (Reps.one (show Kd.M (Kd.int .i64) _ _ _ 3 [.int .i64 3] from rfl) (Reps.none _ _))); intro v276 w57 ho58 hb hg_ hnew_; clear hg_ hnew_; (first | rw [← Ny275.out] at ho58 | (simp only [Int.reduceToNat] at ho58; rw [← Ny275.out] at ho58)); have HO277 := Aside0.mk (Kd.R_lower (Kd.R_new' (Kd.R_new' (Kd.R_new' ho58 (Kd.R_lt (mvR_ HO259.out))) (Kd.R_lt (mvR_ HO268.out))) (Kd.R_lt (mvR_ HO273.out))) (below_size (bq0_ HB.out))); replace HO229 := Aside0.mk (Kd.N_elder' (mvN_ HO229.out) (Kd.R_base ho58) hb); replace HO232 := Aside0.mk (Kd.N_elder' (mvN_ HO232.out) (Kd.R_base ho58) hb); replace HO246 := Aside0.mk (Kd.N_elder' (mvN_ HO246.out) (Kd.R_base ho58) hb); replace HO249 := Aside0.mk (Kd.N_elder' (mvN_ HO249.out) (Kd.R_base ho58) hb); replace HO254 := Aside0.mk (Kd.N_elder' (mvN_ HO254.out) (Kd.R_base ho58) hb); replace HO259 := Aside0.mk (Kd.R_elder' (mvR_ HO259.out) (Kd.R_base ho58) hb); replace HO265 := Aside0.mk (Kd.N_elder' (mvN_ HO265.out) (Kd.R_base ho58) hb); replace HO268 := Aside0.mk (Kd.R_elder' (mvR_ HO268.out) (Kd.R_base ho58) hb); replace HL270_0 := Aside0.mk (Kd.V_elder' (mvV_ HL270_0.out) (Kd.R_base ho58) hb); replace HO273 := Aside0.mk (Kd.R_elder' (mvR_ HO273.out) (Kd.R_base ho58) hb); replace HR270_0 := Aside0.mk (Kd.C_below (by repeat (first | (with_reducible exact HR270_0.out) | (with_reducible refine Kd.C_alloc ?_ _) | (with_reducible refine Kd.C_drewN ?_ _) | (with_reducible refine Kd.C_drew ?_) | exact HR270_0.out)) hb); replace HB := Aside0.mk (below_step (bq0_ HB.out) hb); clear hb ho58; obtain ⟨Ao59, co59, eo59⟩ := Kd.R_slice HO268.out; subst eo59; obtain ⟨Ao60, co60, eo60⟩ := Kd.R_slice HO277.out; subst eo60) | (go_at_call 15; (with_reducible refine (fullerref02_Same.calls k _ _ t266 _ _ y275 true _ ?side1 ?side2 ?side3 ?side4 A17.out).mono ?_); (case side1 => exact mvC_ ((Kd.R_reads' HO268.out).2.2)); (case side2 => exact (Kd.R_reads' HO268.out).2.1); (case side3 => exact mvC_ ((Kd.R_reads' HO277.out).2.2)); (case side4 => exact (Kd.R_reads' HO277.out).2.1); rintro e w' ⟨rfl, ⟨nd, rfl⟩⟩))
              go_ret
              exact ⟨by first | rfl | (simp <;> rfl) | (simp [*] <;> rfl), bq0_ HB.out⟩
             ·rw [if_neg c19] at H
              exact absurd H (by simp)
            ·replace c18 := Bool.eq_false_iff.mpr c18
             subst c18
             have H1 : (none) = some r := by rw [if_neg (show ¬ (false = true) by decide)] at H; exact H
             clear H
             have H := H1
             clear H1
             exact absurd H (by simp)
           ·rw [if_neg c16] at H
            exact absurd H (by simp)
          ·rw [if_neg c15] at H
           exact absurd H (by simp)
         ·rw [if_neg c14] at H
          exact absurd H (by simp)
        ·rw [if_neg c13] at H
         exact absurd H (by simp)
       ·rw [if_neg c12] at H
        exact absurd H (by simp)
      ·rw [if_neg c11] at H
       exact absurd H (by simp)
     ·replace c10 := Bool.eq_false_iff.mpr c10
      subst c10
      have H1 : (none) = some r := by rw [if_neg (show ¬ (false = true) by decide)] at H; exact H
      clear H
      have H := H1
      clear H1
      exact absurd H (by simp)
    ·rw [if_neg c8] at H
     exact absurd H (by simp)
   ·rw [if_neg c7] at H
    exact absurd H (by simp)
  ·rw [if_neg c3] at H
   exact absurd H (by simp)
 ·rw [if_neg c2] at H
  exact absurd H (by simp)

/-! ### fullerref10_Arity: function 25 -/
mutual
def fullerref10_Arity.j0 : Nat → Int → Bool → Option (Int)
 | 0, _, _ => none
 | k + 1, x0, x8 => if x8 = true then (some 0) else (if x0 ≥ 10 then (if x0 ≤ 13 then (fullerref10_Arity.j1 k x0 true) else (if x0 = 30 then (fullerref10_Arity.j1 k x0 true) else (fullerref10_Arity.j1 k x0 (x0 == 43)))) else (if x0 = 30 then (fullerref10_Arity.j1 k x0 true) else (fullerref10_Arity.j1 k x0 (x0 == 43))))
def fullerref10_Arity.j1 : Nat → Int → Bool → Option (Int)
 | 0, _, _ => none
 | k + 1, x0, x22 => if x22 = true then (some 2) else (if x0 ≥ 20 then (if x0 ≤ 23 then (some 1) else (if x0 ≥ 40 then (if x0 ≤ 42 then (some 1) else (if x0 ≥ 50 then (if x0 ≤ 52 then (some 1) else (some (-1))) else (some (-1)))) else (if x0 ≥ 50 then (if x0 ≤ 52 then (some 1) else (some (-1))) else (some (-1))))) else (if x0 ≥ 40 then (if x0 ≤ 42 then (some 1) else (if x0 ≥ 50 then (if x0 ≤ 52 then (some 1) else (some (-1))) else (some (-1)))) else (if x0 ≥ 50 then (if x0 ≤ 52 then (some 1) else (some (-1))) else (some (-1)))))
end
def fullerref10_Arity.f (k : Nat) (a0 : Int) : Option (Int) := if a0 ≥ 1 then (fullerref10_Arity.j0 k a0 (decide (a0 ≤ 3))) else (fullerref10_Arity.j0 k a0 false)
theorem fullerref10_Arity.mono_l : ∀ k, (∀ y0 y1, LeO (fullerref10_Arity.j0 k y0 y1) (fullerref10_Arity.j0 (k + 1) y0 y1)) ∧ (∀ y0 y1, LeO (fullerref10_Arity.j1 k y0 y1) (fullerref10_Arity.j1 (k + 1) y0 y1))
 | 0 => ⟨fun _ _ r h => by simp [fullerref10_Arity.j0] at h, fun _ _ r h => by simp [fullerref10_Arity.j1] at h⟩
 | k + 1 => by
  obtain ⟨ih0, ih1⟩ := fullerref10_Arity.mono_l k
  refine ⟨?_, ?_⟩
  ·intro y0 y1
   unfold fullerref10_Arity.j0
   repeat' first
   | (with_reducible exact ih0 _ _)
   | (with_reducible exact ih1 _ _)
   | (with_reducible exact LeO.refl _)
   | (with_reducible exact LeO.none _)
   | (with_reducible refine LeO.ite ?_ ?_)
   | (with_reducible refine LeO.bind ?_ (fun _ => ?_))
   | exact ih0 _ _
   | exact ih1 _ _
   | exact LeO.none _
   | refine LeO.ite ?_ ?_
   | refine LeO.bind ?_ (fun _ => ?_)
  ·intro y0 y1
   unfold fullerref10_Arity.j1
   repeat' first
   | (with_reducible exact ih0 _ _)
   | (with_reducible exact ih1 _ _)
   | (with_reducible exact LeO.refl _)
   | (with_reducible exact LeO.none _)
   | (with_reducible refine LeO.ite ?_ ?_)
   | (with_reducible refine LeO.bind ?_ (fun _ => ?_))
   | exact ih0 _ _
   | exact ih1 _ _
   | exact LeO.none _
   | refine LeO.ite ?_ ?_
   | refine LeO.bind ?_ (fun _ => ?_)
theorem fullerref10_Arity.mono : ∀ a0 k, LeO (fullerref10_Arity.f k a0) (fullerref10_Arity.f (k + 1) a0) := by
 intro a0 k
 obtain ⟨ih0, ih1⟩ := fullerref10_Arity.mono_l k
 unfold fullerref10_Arity.f
 repeat' first
   | (with_reducible exact ih0 _ _)
   | (with_reducible exact ih1 _ _)
   | (with_reducible exact LeO.refl _)
   | (with_reducible exact LeO.none _)
   | (with_reducible refine LeO.ite ?_ ?_)
   | (with_reducible refine LeO.bind ?_ (fun _ => ?_))
   | exact ih0 _ _
   | exact ih1 _ _
   | exact LeO.none _
   | refine LeO.ite ?_ ?_
   | refine LeO.bind ?_ (fun _ => ?_)
set_option maxHeartbeats 8000000 in
set_option maxRecDepth 100000 in
theorem fullerref10_Arity.calls (k : Nat) (a0 : Int) (r : Int) (w : World) (h : fullerref10_Arity.f k a0 = some r) :
  Calls Try.prog 25 #[.int .i64 a0] w fun e w' => e = .returned (.int .i64 r) ∧ Drawn0 w w' := by
 have H : (if a0 ≥ 1 then (fullerref10_Arity.j0 k a0 (decide (a0 ≤ 3))) else (fullerref10_Arity.j0 k a0 false)) = some r := h
 clear h
 have HC2 := Aside0.mk H
 clear H
 go_enter Try.func25, Try.ntmps25
 go_upto_region 1 with (fail)
 go_cut [8] (fun v8 wc => ∃ (kq : Nat) (x8_1 : Bool), v8 = .bool x8_1 ∧ Aside0 (fullerref10_Arity.j0 kq a0 x8_1 = some r) ∧ Aside0 (kq ≤ k) ∧ Drawn0 w wc)
 case first =>
  have H := HC2.out
  clear HC2
  by_cases c3 : a0 ≥ 1
  ·rw [if_pos c3] at H
   have c3b0 : decide (1 ≤ a0) = true := decide_eq_true c3
   clear c3
   (first | rw [c3b0] | (simp only [i64_w, i32_w]; rw [c3b0]) | skip)
   have H' := Aside0.mk H
   clear H
   go_wp2
   go_meet
   case rel => exact ⟨_, (decide (a0 ≤ 3)), (by first | rfl | (simp; done) | (simp [*]; done)), H', ⟨by first | omega | exact Nat.le_refl _⟩, by repeat (first | exact Drawn0.refl _ | apply Drawn0.step)⟩
  ·rw [if_neg c3] at H
   have c3b0 : decide (1 ≤ a0) = false := decide_eq_false c3
   clear c3
   (first | rw [c3b0] | (simp only [i64_w, i32_w]; rw [c3b0]) | skip)
   have H' := Aside0.mk H
   clear H
   go_wp2
   go_meet
   case rel => exact ⟨_, (false), (by first | rfl | (simp; done) | (simp [*]; done)), H', ⟨by first | omega | exact Nat.le_refl _⟩, by repeat (first | exact Drawn0.refl _ | apply Drawn0.step)⟩
 case rest =>
  clear HC2
  try clear c2
  try clear p2
  try clear c3
  try clear c3b0
  obtain ⟨kq, x8_1, rfl, HA, HJ1, ⟨mc1, rfl⟩⟩ := hcut
  cases kq with
  | zero => exact absurd HA.out (by simp [fullerref10_Arity.j0])
  | succ kj1 =>
   have H := HA.out
   clear HA
   simp only [fullerref10_Arity.j0] at H
   by_cases c4 : x8_1 = true
   ·subst c4
    have H1 : (some 0) = some r := by rw [if_pos rfl] at H; exact H
    clear H
    have H := H1
    clear H1
    obtain rfl := Option.some.inj H
    go_wp2
    go_ret
    exact ⟨by first | rfl | (simp; done) | (simp [*]; done), by repeat (first | exact Drawn0.refl _ | apply Drawn0.step)⟩
   ·replace c4 := Bool.eq_false_iff.mpr c4
    subst c4
    have H1 : (if a0 ≥ 10 then (if a0 ≤ 13 then (fullerref10_Arity.j1 kj1 a0 true) else (if a0 = 30 then (fullerref10_Arity.j1 kj1 a0 true) else (fullerref10_Arity.j1 kj1 a0 (a0 == 43)))) else (if a0 = 30 then (fullerref10_Arity.j1 kj1 a0 true) else (fullerref10_Arity.j1 kj1 a0 (a0 == 43)))) = some r := by rw [if_neg (show ¬ (false = true) by decide)] at H; exact H
    clear H
    have H := H1
    clear H1
    have HC5 := Aside0.mk H
    clear H
    go_upto_region 3 with (fail)
    go_cut [22] (fun v22 wc => ∃ (kq : Nat) (x22_4 : Bool), v22 = .bool x22_4 ∧ Aside0 (fullerref10_Arity.j1 kq a0 x22_4 = some r) ∧ Aside0 (kq ≤ kj1) ∧ Drawn0 w wc)
    case first =>
     have H := HC5.out
     clear HC5
     by_cases c6 : a0 ≥ 10
     ·rw [if_pos c6] at H
      have c6b0 : decide (10 ≤ a0) = true := decide_eq_true c6
      clear c6
      (first | rw [c6b0] | (simp only [i64_w, i32_w]; rw [c6b0]) | skip)
      by_cases c7 : a0 ≤ 13
      ·rw [if_pos c7] at H
       have c7b0 : decide (a0 ≤ 13) = true := decide_eq_true c7
       clear c7
       have H' := Aside0.mk H
       clear H
       go_wp2
       go_meet
       case rel => exact ⟨_, (true), (by first | rfl | (simp; done) | (simp [*]; done)), H', ⟨by have := HJ1.out; first | omega | exact Nat.le_refl _⟩, by repeat (first | exact Drawn0.refl _ | apply Drawn0.step)⟩
      ·rw [if_neg c7] at H
       have c7b0 : decide (a0 ≤ 13) = false := decide_eq_false c7
       clear c7
       by_cases c8 : a0 = 30
       ·rw [if_pos c8] at H
        obtain ⟨c8b0, c8b1⟩ := eqT_ c8
        clear c8
        have H' := Aside0.mk H
        clear H
        go_wp2
        go_meet
        case rel => exact ⟨_, (true), (by first | rfl | (simp; done) | (simp [*]; done)), H', ⟨by have := HJ1.out; first | omega | exact Nat.le_refl _⟩, by repeat (first | exact Drawn0.refl _ | apply Drawn0.step)⟩
       ·rw [if_neg c8] at H
        have c8b0 : (a0 == 30) = false := beq_eq_false_iff_ne.mpr c8
        have c8b1 : (a0 != 30) = true := bne_iff_ne.mpr c8
        have H' := Aside0.mk H
        clear H
        go_wp2
        go_meet
        case rel => exact ⟨_, ((a0 == 43)), (by first | rfl | (simp; done) | (simp [*]; done)), H', ⟨by have := HJ1.out; first | omega | exact Nat.le_refl _⟩, by repeat (first | exact Drawn0.refl _ | apply Drawn0.step)⟩
     ·rw [if_neg c6] at H
      have c6b0 : decide (10 ≤ a0) = false := decide_eq_false c6
      clear c6
      (first | rw [c6b0] | (simp only [i64_w, i32_w]; rw [c6b0]) | skip)
      by_cases c9 : a0 = 30
      ·rw [if_pos c9] at H
       obtain ⟨c9b0, c9b1⟩ := eqT_ c9
       clear c9
       have H' := Aside0.mk H
       clear H
       go_wp2
       go_meet
       case rel => exact ⟨_, (true), (by first | rfl | (simp; done) | (simp [*]; done)), H', ⟨by have := HJ1.out; first | omega | exact Nat.le_refl _⟩, by repeat (first | exact Drawn0.refl _ | apply Drawn0.step)⟩
      ·rw [if_neg c9] at H
       have c9b0 : (a0 == 30) = false := beq_eq_false_iff_ne.mpr c9
       have c9b1 : (a0 != 30) = true := bne_iff_ne.mpr c9
       have H' := Aside0.mk H
       clear H
       go_wp2
       go_meet
       case rel => exact ⟨_, ((a0 == 43)), (by first | rfl | (simp; done) | (simp [*]; done)), H', ⟨by have := HJ1.out; first | omega | exact Nat.le_refl _⟩, by repeat (first | exact Drawn0.refl _ | apply Drawn0.step)⟩
    case rest =>
     clear HC5
     try clear c1
     try clear c2
     try clear p2
     try clear c3
     try clear c3b0
     try clear c4
     try clear c6
     try clear c6b0
     try clear c7
     try clear c7b0
     try clear c8
     try clear c8b0
     try clear c8b1
     try clear c9
     try clear c9b0
     try clear c9b1
     try clear p2
     obtain ⟨kq, x22_4, rfl, HA, HJ4, ⟨mc4, rfl⟩⟩ := hcut
     cases kq with
     | zero => exact absurd HA.out (by simp [fullerref10_Arity.j1])
     | succ kj4 =>
      have H := HA.out
      clear HA
      simp only [fullerref10_Arity.j1] at H
      by_cases c10 : x22_4 = true
      ·subst c10
       have H1 : (some 2) = some r := by rw [if_pos rfl] at H; exact H
       clear H
       have H := H1
       clear H1
       obtain rfl := Option.some.inj H
       go_wp2
       go_ret
       exact ⟨by first | rfl | (simp; done) | (simp [*]; done), by repeat (first | exact Drawn0.refl _ | apply Drawn0.step)⟩
      ·replace c10 := Bool.eq_false_iff.mpr c10
       subst c10
       have H1 : (if a0 ≥ 20 then (if a0 ≤ 23 then (some 1) else (if a0 ≥ 40 then (if a0 ≤ 42 then (some 1) else (if a0 ≥ 50 then (if a0 ≤ 52 then (some 1) else (some (-1))) else (some (-1)))) else (if a0 ≥ 50 then (if a0 ≤ 52 then (some 1) else (some (-1))) else (some (-1))))) else (if a0 ≥ 40 then (if a0 ≤ 42 then (some 1) else (if a0 ≥ 50 then (if a0 ≤ 52 then (some 1) else (some (-1))) else (some (-1)))) else (if a0 ≥ 50 then (if a0 ≤ 52 then (some 1) else (some (-1))) else (some (-1))))) = some r := by rw [if_neg (show ¬ (false = true) by decide)] at H; exact H
       clear H
       have H := H1
       clear H1
       by_cases c11 : a0 ≥ 20
       ·rw [if_pos c11] at H
        have c11b0 : decide (20 ≤ a0) = true := decide_eq_true c11
        clear c11
        by_cases c12 : a0 ≤ 23
        ·rw [if_pos c12] at H
         have c12b0 : decide (a0 ≤ 23) = true := decide_eq_true c12
         clear c12
         obtain rfl := Option.some.inj H
         go_wp2
         go_ret
         exact ⟨by first | rfl | (simp; done) | (simp [*]; done), by repeat (first | exact Drawn0.refl _ | apply Drawn0.step)⟩
        ·rw [if_neg c12] at H
         have c12b0 : decide (a0 ≤ 23) = false := decide_eq_false c12
         clear c12
         by_cases c13 : a0 ≥ 40
         ·rw [if_pos c13] at H
          have c13b0 : decide (40 ≤ a0) = true := decide_eq_true c13
          clear c13
          by_cases c14 : a0 ≤ 42
          ·rw [if_pos c14] at H
           have c14b0 : decide (a0 ≤ 42) = true := decide_eq_true c14
           clear c14
           obtain rfl := Option.some.inj H
           go_wp2
           go_ret
           exact ⟨by first | rfl | (simp; done) | (simp [*]; done), by repeat (first | exact Drawn0.refl _ | apply Drawn0.step)⟩
          ·rw [if_neg c14] at H
           have c14b0 : decide (a0 ≤ 42) = false := decide_eq_false c14
           clear c14
           by_cases c15 : a0 ≥ 50
           ·rw [if_pos c15] at H
            have c15b0 : decide (50 ≤ a0) = true := decide_eq_true c15
            clear c15
            by_cases c16 : a0 ≤ 52
            ·rw [if_pos c16] at H
             have c16b0 : decide (a0 ≤ 52) = true := decide_eq_true c16
             clear c16
             obtain rfl := Option.some.inj H
             go_wp2
             go_ret
             exact ⟨by first | rfl | (simp; done) | (simp [*]; done), by repeat (first | exact Drawn0.refl _ | apply Drawn0.step)⟩
            ·rw [if_neg c16] at H
             have c16b0 : decide (a0 ≤ 52) = false := decide_eq_false c16
             clear c16
             obtain rfl := Option.some.inj H
             go_wp2
             go_ret
             exact ⟨by first | rfl | (simp; done) | (simp [*]; done), by repeat (first | exact Drawn0.refl _ | apply Drawn0.step)⟩
           ·rw [if_neg c15] at H
            have c15b0 : decide (50 ≤ a0) = false := decide_eq_false c15
            clear c15
            obtain rfl := Option.some.inj H
            go_wp2
            go_ret
            exact ⟨by first | rfl | (simp; done) | (simp [*]; done), by repeat (first | exact Drawn0.refl _ | apply Drawn0.step)⟩
         ·rw [if_neg c13] at H
          have c13b0 : decide (40 ≤ a0) = false := decide_eq_false c13
          clear c13
          by_cases c17 : a0 ≥ 50
          ·rw [if_pos c17] at H
           have c17b0 : decide (50 ≤ a0) = true := decide_eq_true c17
           clear c17
           by_cases c18 : a0 ≤ 52
           ·rw [if_pos c18] at H
            have c18b0 : decide (a0 ≤ 52) = true := decide_eq_true c18
            clear c18
            obtain rfl := Option.some.inj H
            go_wp2
            go_ret
            exact ⟨by first | rfl | (simp; done) | (simp [*]; done), by repeat (first | exact Drawn0.refl _ | apply Drawn0.step)⟩
           ·rw [if_neg c18] at H
            have c18b0 : decide (a0 ≤ 52) = false := decide_eq_false c18
            clear c18
            obtain rfl := Option.some.inj H
            go_wp2
            go_ret
            exact ⟨by first | rfl | (simp; done) | (simp [*]; done), by repeat (first | exact Drawn0.refl _ | apply Drawn0.step)⟩
          ·rw [if_neg c17] at H
           have c17b0 : decide (50 ≤ a0) = false := decide_eq_false c17
           clear c17
           obtain rfl := Option.some.inj H
           go_wp2
           go_ret
           exact ⟨by first | rfl | (simp; done) | (simp [*]; done), by repeat (first | exact Drawn0.refl _ | apply Drawn0.step)⟩
       ·rw [if_neg c11] at H
        have c11b0 : decide (20 ≤ a0) = false := decide_eq_false c11
        clear c11
        by_cases c19 : a0 ≥ 40
        ·rw [if_pos c19] at H
         have c19b0 : decide (40 ≤ a0) = true := decide_eq_true c19
         clear c19
         by_cases c20 : a0 ≤ 42
         ·rw [if_pos c20] at H
          have c20b0 : decide (a0 ≤ 42) = true := decide_eq_true c20
          clear c20
          obtain rfl := Option.some.inj H
          go_wp2
          go_ret
          exact ⟨by first | rfl | (simp; done) | (simp [*]; done), by repeat (first | exact Drawn0.refl _ | apply Drawn0.step)⟩
         ·rw [if_neg c20] at H
          have c20b0 : decide (a0 ≤ 42) = false := decide_eq_false c20
          clear c20
          by_cases c21 : a0 ≥ 50
          ·rw [if_pos c21] at H
           have c21b0 : decide (50 ≤ a0) = true := decide_eq_true c21
           clear c21
           by_cases c22 : a0 ≤ 52
           ·rw [if_pos c22] at H
            have c22b0 : decide (a0 ≤ 52) = true := decide_eq_true c22
            clear c22
            obtain rfl := Option.some.inj H
            go_wp2
            go_ret
            exact ⟨by first | rfl | (simp; done) | (simp [*]; done), by repeat (first | exact Drawn0.refl _ | apply Drawn0.step)⟩
           ·rw [if_neg c22] at H
            have c22b0 : decide (a0 ≤ 52) = false := decide_eq_false c22
            clear c22
            obtain rfl := Option.some.inj H
            go_wp2
            go_ret
            exact ⟨by first | rfl | (simp; done) | (simp [*]; done), by repeat (first | exact Drawn0.refl _ | apply Drawn0.step)⟩
          ·rw [if_neg c21] at H
           have c21b0 : decide (50 ≤ a0) = false := decide_eq_false c21
           clear c21
           obtain rfl := Option.some.inj H
           go_wp2
           go_ret
           exact ⟨by first | rfl | (simp; done) | (simp [*]; done), by repeat (first | exact Drawn0.refl _ | apply Drawn0.step)⟩
        ·rw [if_neg c19] at H
         have c19b0 : decide (40 ≤ a0) = false := decide_eq_false c19
         clear c19
         by_cases c23 : a0 ≥ 50
         ·rw [if_pos c23] at H
          have c23b0 : decide (50 ≤ a0) = true := decide_eq_true c23
          clear c23
          by_cases c24 : a0 ≤ 52
          ·rw [if_pos c24] at H
           have c24b0 : decide (a0 ≤ 52) = true := decide_eq_true c24
           clear c24
           obtain rfl := Option.some.inj H
           go_wp2
           go_ret
           exact ⟨by first | rfl | (simp; done) | (simp [*]; done), by repeat (first | exact Drawn0.refl _ | apply Drawn0.step)⟩
          ·rw [if_neg c24] at H
           have c24b0 : decide (a0 ≤ 52) = false := decide_eq_false c24
           clear c24
           obtain rfl := Option.some.inj H
           go_wp2
           go_ret
           exact ⟨by first | rfl | (simp; done) | (simp [*]; done), by repeat (first | exact Drawn0.refl _ | apply Drawn0.step)⟩
         ·rw [if_neg c23] at H
          have c23b0 : decide (50 ≤ a0) = false := decide_eq_false c23
          clear c23
          obtain rfl := Option.some.inj H
          go_wp2
          go_ret
          exact ⟨by first | rfl | (simp; done) | (simp [*]; done), by repeat (first | exact Drawn0.refl _ | apply Drawn0.step)⟩

/-! ### fullerref02_product: function 53 -/
def fullerref02_product.l0 : Nat → List Int → Int → Int → Option (Int)
  | 0, _, _, _ => none
  | k + 1, x0, x3, x4 => if x4 < (x0.length : Int) then (if 0 ≤ x4 then (fullerref02_product.l0 k x0 (wrap64 (x3 * (rd x0 x4))) (wrap64 (x4 + 1))) else (none)) else (some x3)
def fullerref02_product.f (k : Nat) (l0 : List Int) : Option (Int) := fullerref02_product.l0 k l0 1 0
theorem fullerref02_product.mono_l : ∀ k, (∀ y0 y1 y2, LeO (fullerref02_product.l0 k y0 y1 y2) (fullerref02_product.l0 (k + 1) y0 y1 y2))
  | 0 => fun _ _ _ r h => by simp [fullerref02_product.l0] at h
  | k + 1 => by
    have ih0 := fullerref02_product.mono_l k
    · intro y0 y1 y2
      unfold fullerref02_product.l0
      repeat' first
      | (with_reducible exact ih0 _ _ _)
      | (with_reducible exact LeO.refl _)
      | (with_reducible exact LeO.none _)
      | (with_reducible refine LeO.ite ?_ ?_)
      | (with_reducible refine LeO.bind ?_ (fun _ => ?_))
      | exact ih0 _ _ _
      | exact LeO.none _
      | refine LeO.ite ?_ ?_
      | refine LeO.bind ?_ (fun _ => ?_)
theorem fullerref02_product.mono : ∀ a0 k, LeO (fullerref02_product.f k a0) (fullerref02_product.f (k + 1) a0) := by
  intro a0 k
  have ih0 := fullerref02_product.mono_l k
  unfold fullerref02_product.f
  repeat' first
      | (with_reducible exact ih0 _ _ _)
      | (with_reducible exact LeO.refl _)
      | (with_reducible exact LeO.none _)
      | (with_reducible refine LeO.ite ?_ ?_)
      | (with_reducible refine LeO.bind ?_ (fun _ => ?_))
      | exact ih0 _ _ _
      | exact LeO.none _
      | refine LeO.ite ?_ ?_
      | refine LeO.bind ?_ (fun _ => ?_)
set_option maxHeartbeats 8000000 in
set_option maxRecDepth 100000 in
theorem fullerref02_product.calls (k : Nat) (A0 : Option Addr) (c0 : Nat) (l0 : List Int) (r : Int) (w : World) (hr0 : Kd.C (Kd.int .i64) w A0 l0.length l0) (hc0 : l0.length ≤ c0) (h : fullerref02_product.f k l0 = some r) :
    Calls Try.prog 53 #[.slice A0 l0.length c0] w fun e w' => e = .returned (.int .i64 r) ∧ Drawn0 w w' := by
  have HR0 := Aside0.mk hr0
  have HC0 := Aside0.mk hc0
  clear hr0 hc0
  have H : (fullerref02_product.l0 k l0 1 0) = some r := h
  clear h
  have H' := Aside0.mk H
  clear H
  go_enter Try.func53, Try.ntmps53
  go_wp2
  go_loopg [3, 4] k (fun kq v3 v4 w' => ∃ (x3_1 : Int) (x4_1 : Int), v3 = .int .i64 x3_1 ∧ v4 = .int .i64 x4_1 ∧ Aside0 (fullerref02_product.l0 kq l0 x3_1 x4_1 = some r) ∧ Aside0 (kq ≤ k) ∧ Drawn0 w w')
  case atStart => exact ⟨(1), (0), (by first | rfl | (simp; done) | (simp [*]; done)), (by first | rfl | (simp; done) | (simp [*]; done)), H', ⟨Nat.le_refl _⟩, by repeat (first | exact Drawn0.refl _ | apply Drawn0.step)⟩
  case round =>
    clear H'
    obtain ⟨x3_1, x4_1, rfl, rfl, HA, HK1, ⟨m1, rfl⟩⟩ := hrel
    cases gk with
    | zero => exact absurd HA.out (by simp [fullerref02_product.l0])
    | succ k1 =>
      have H := HA.out
      clear HA
      simp only [fullerref02_product.l0] at H
      by_cases c2 : x4_1 < (l0.length : Int)
      · rw [if_pos c2] at H
        have c2b0 : decide (x4_1 < (l0.length : Int)) = true := decide_eq_true c2
        clear c2
        by_cases c3 : 0 ≤ x4_1
        · rw [if_pos c3] at H
          have c3b0 : decide (0 ≤ x4_1) = true := decide_eq_true c3
          clear c3
          have H' := Aside0.mk H
          clear H
          have p279 : 0 ≤ (x4_1 : Int) := of_decide_eq_true (by first | (with_reducible assumption) | assumption)
          have q279 : x4_1 < (l0.length : Int) := of_decide_eq_true (by first | (with_reducible assumption) | assumption)
          obtain ⟨ad279, e279, hx279_0⟩ := Kd.at_int HR0.out x4_1 p279 q279
          cases e279
          replace p279 := eq_true p279
          replace q279 := eq_true q279
          go_wp2
          go_roundg k1
          case measure => have := HK1.out; omega
          case rel => exact ⟨(wrap64 (x3_1 * (rd l0 x4_1))), (wrap64 (x4_1 + 1)), (by first | rfl | (simp; done) | (simp [*]; done)), (by first | rfl | (simp; done) | (simp [*]; done)), H', ⟨by have := HK1.out; omega⟩, by repeat (first | exact Drawn0.refl _ | apply Drawn0.step)⟩
        · rw [if_neg c3] at H
          exact absurd H (by simp)
      · rw [if_neg c2] at H
        have c2b0 : decide (x4_1 < (l0.length : Int)) = false := decide_eq_false c2
        clear c2
        obtain rfl := Option.some.inj H
        go_wp2
        go_ret
        exact ⟨by first | rfl | (simp; done) | (simp [*]; done), by repeat (first | exact Drawn0.refl _ | apply Drawn0.step)⟩

end Go.Proofs.Ytalmgghhpgfgoaa.A
