/- Lean functions that answer as the Go functions do, and the proofs that they do; no conditions. Written by this session's own driver: a scratch copy of the kit's print with the session's additions (wip/xprint). -/
import Derived.Test.YtkebkghhncelpaaAx0
import Derived.Test.YtkebkghhncelpaaAx3
import Derived.Test.YtkebkghhncelpaaAx4
import Derived.Test.YtkebkghhncelpaaAx5
import Derived.Test.YtkebkghhncelpaaAx6
import Derived.Test.YtkebkghhncelpaaAx9
import Derived.Test.YtkebkghhncelpaaAx10
import Derived.Test.YtkebkghhncelpaaAx12
import Derived.Test.YtkebkghhncelpaaAx14
import Derived.Test.YtkebkghhncelpaaAx15
import Derived.Test.YtkebkghhncelpaaAx18
namespace Go.Proofs.Ytkebkghhncelpaa.A
open Go.RowKit Go.Proofs.YtkebkghhncelpaaW.PrintWords Go.Proofs.YtkebkghhncelpaaW.PrintLast Go.Proofs.YtkebkghhncelpaaW.PrintMore
attribute [local go_sem] max2_int min2_int max_two min_two max_three min_three max_four min_four   -- for this text's walks alone
set_option linter.unusedVariables false
set_option linter.unusedSimpArgs false

/-! ### fullerlaw01_FixTells: function 9 -/
def fullerlaw01_FixTells.f (k : Nat) (a0 : Int) (a1 : Int) : Option (Bool) := (fullerlaw01_awake.f k).bind fun t231 => ((fix_Add.f a0 a1).bind fun bt232 => ((fullerref01_Add.f a0 a1).bind fun bt234 => (if bt232.1 = bt234.1 then ((fix_Sub.f a0 a1).bind fun bt236 => ((fullerref01_Sub.f a0 a1).bind fun bt238 => (if bt236.1 = bt238.1 then ((fix_Mul.f a0 a1).bind fun bt240 => ((fullerref01_Mul.f k a0 a1).bind fun bt242 => (if bt240.1 = bt242.1 then ((fix_Div.f k a0 a1).bind fun bt244 => ((fullerref01_Div.f k a0 a1).bind fun bt246 => (if bt244.1 = bt246.1 then ((fix_Neg.f a0).bind fun bt248 => ((fullerref01_Neg.f a0).bind fun bt250 => (if bt248.1 = bt250.1 then ((fix_Sqrt.f k a0).bind fun bt252 => ((fullerref01_Sqrt.f k a0).bind fun bt254 => (if bt252.1 = bt254.1 then ((fix_Pow.f k a0).bind fun bt256 => ((fullerref01_Pow.f k a0).bind fun bt258 => (if bt256.1 = bt258.1 then ((fix_Slope.f k a0).bind fun bt260 => ((fullerref01_Slope.f k a0).bind fun bt262 => (if t231 = true then (if bt232.2 = bt234.2 then (if bt236.2 = bt238.2 then (if bt240.2 = bt242.2 then (if bt244.2 = bt246.2 then (if bt248.2 = bt250.2 then (if bt252.2 = bt254.2 then (if bt256.2 = bt258.2 then (if bt260.1 = bt262.1 then (some (bt260.2 == bt262.2)) else (none)) else (none)) else (none)) else (none)) else (none)) else (none)) else (none)) else (none)) else (none)))) else (none)))) else (none)))) else (none)))) else (none)))) else (none)))) else (none)))) else (none))))
theorem fullerlaw01_FixTells.mono : ∀ a0 a1 k, LeO (fullerlaw01_FixTells.f k a0 a1) (fullerlaw01_FixTells.f (k + 1) a0 a1) := by
  intro a0 a1 k
  unfold fullerlaw01_FixTells.f
  repeat' first
      | (with_reducible exact fix_Div.mono _ _ _)
      | (with_reducible exact fix_Pow.mono _ _)
      | (with_reducible exact fix_Slope.mono _ _)
      | (with_reducible exact fix_Sqrt.mono _ _)
      | (with_reducible exact fullerlaw01_awake.mono _)
      | (with_reducible exact fullerref01_Div.mono _ _ _)
      | (with_reducible exact fullerref01_Mul.mono _ _ _)
      | (with_reducible exact fullerref01_Pow.mono _ _)
      | (with_reducible exact fullerref01_Slope.mono _ _)
      | (with_reducible exact fullerref01_Sqrt.mono _ _)
      | (with_reducible exact LeO.refl _)
      | (with_reducible exact LeO.none _)
      | (with_reducible refine LeO.ite ?_ ?_)
      | (with_reducible refine LeO.bind ?_ (fun _ => ?_))
      | exact fix_Div.mono _ _ _
      | exact fix_Pow.mono _ _
      | exact fix_Slope.mono _ _
      | exact fix_Sqrt.mono _ _
      | exact fullerlaw01_awake.mono _
      | exact fullerref01_Div.mono _ _ _
      | exact fullerref01_Mul.mono _ _ _
      | exact fullerref01_Pow.mono _ _
      | exact fullerref01_Slope.mono _ _
      | exact fullerref01_Sqrt.mono _ _
      | exact LeO.none _
      | refine LeO.ite ?_ ?_
      | refine LeO.bind ?_ (fun _ => ?_)
set_option maxHeartbeats 8000000 in
set_option maxRecDepth 100000 in
theorem fullerlaw01_FixTells.calls (k : Nat) (a0 : Int) (a1 : Int) (r : Bool) (w : World) (h : fullerlaw01_FixTells.f k a0 a1 = some r) :
    Calls Try.prog 9 #[.int .i64 a0, .int .i64 a1] w fun e w' => e = .returned (.bool r) ∧ Below w.heap.size w w' := by
  have HB := Aside0.mk (Below.refl w.heap.size w)
  have H : ((fullerlaw01_awake.f k).bind fun t231 => ((fix_Add.f a0 a1).bind fun bt232 => ((fullerref01_Add.f a0 a1).bind fun bt234 => (if bt232.1 = bt234.1 then ((fix_Sub.f a0 a1).bind fun bt236 => ((fullerref01_Sub.f a0 a1).bind fun bt238 => (if bt236.1 = bt238.1 then ((fix_Mul.f a0 a1).bind fun bt240 => ((fullerref01_Mul.f k a0 a1).bind fun bt242 => (if bt240.1 = bt242.1 then ((fix_Div.f k a0 a1).bind fun bt244 => ((fullerref01_Div.f k a0 a1).bind fun bt246 => (if bt244.1 = bt246.1 then ((fix_Neg.f a0).bind fun bt248 => ((fullerref01_Neg.f a0).bind fun bt250 => (if bt248.1 = bt250.1 then ((fix_Sqrt.f k a0).bind fun bt252 => ((fullerref01_Sqrt.f k a0).bind fun bt254 => (if bt252.1 = bt254.1 then ((fix_Pow.f k a0).bind fun bt256 => ((fullerref01_Pow.f k a0).bind fun bt258 => (if bt256.1 = bt258.1 then ((fix_Slope.f k a0).bind fun bt260 => ((fullerref01_Slope.f k a0).bind fun bt262 => (if t231 = true then (if bt232.2 = bt234.2 then (if bt236.2 = bt238.2 then (if bt240.2 = bt242.2 then (if bt244.2 = bt246.2 then (if bt248.2 = bt250.2 then (if bt252.2 = bt254.2 then (if bt256.2 = bt258.2 then (if bt260.1 = bt262.1 then (some (bt260.2 == bt262.2)) else (none)) else (none)) else (none)) else (none)) else (none)) else (none)) else (none)) else (none)) else (none)))) else (none)))) else (none)))) else (none)))) else (none)))) else (none)))) else (none)))) else (none))))) = some r := h
  clear h
  replace H := Option.bind_eq_some_iff.mp H
  obtain ⟨t231, A30, H⟩ := H
  replace H : ((fix_Add.f a0 a1).bind fun bt232 => ((fullerref01_Add.f a0 a1).bind fun bt234 => (if bt232.1 = bt234.1 then ((fix_Sub.f a0 a1).bind fun bt236 => ((fullerref01_Sub.f a0 a1).bind fun bt238 => (if bt236.1 = bt238.1 then ((fix_Mul.f a0 a1).bind fun bt240 => ((fullerref01_Mul.f k a0 a1).bind fun bt242 => (if bt240.1 = bt242.1 then ((fix_Div.f k a0 a1).bind fun bt244 => ((fullerref01_Div.f k a0 a1).bind fun bt246 => (if bt244.1 = bt246.1 then ((fix_Neg.f a0).bind fun bt248 => ((fullerref01_Neg.f a0).bind fun bt250 => (if bt248.1 = bt250.1 then ((fix_Sqrt.f k a0).bind fun bt252 => ((fullerref01_Sqrt.f k a0).bind fun bt254 => (if bt252.1 = bt254.1 then ((fix_Pow.f k a0).bind fun bt256 => ((fullerref01_Pow.f k a0).bind fun bt258 => (if bt256.1 = bt258.1 then ((fix_Slope.f k a0).bind fun bt260 => ((fullerref01_Slope.f k a0).bind fun bt262 => (if t231 = true then (if bt232.2 = bt234.2 then (if bt236.2 = bt238.2 then (if bt240.2 = bt242.2 then (if bt244.2 = bt246.2 then (if bt248.2 = bt250.2 then (if bt252.2 = bt254.2 then (if bt256.2 = bt258.2 then (if bt260.1 = bt262.1 then (some (bt260.2 == bt262.2)) else (none)) else (none)) else (none)) else (none)) else (none)) else (none)) else (none)) else (none)) else (none)))) else (none)))) else (none)))) else (none)))) else (none)))) else (none)))) else (none)))) else (none)))) = some r := H
  have A3 := Aside0.mk A30
  clear A30
  replace H := Option.bind_eq_some_iff.mp H
  obtain ⟨⟨t232, t233⟩, A40, H⟩ := H
  replace H : ((fullerref01_Add.f a0 a1).bind fun bt234 => (if t232 = bt234.1 then ((fix_Sub.f a0 a1).bind fun bt236 => ((fullerref01_Sub.f a0 a1).bind fun bt238 => (if bt236.1 = bt238.1 then ((fix_Mul.f a0 a1).bind fun bt240 => ((fullerref01_Mul.f k a0 a1).bind fun bt242 => (if bt240.1 = bt242.1 then ((fix_Div.f k a0 a1).bind fun bt244 => ((fullerref01_Div.f k a0 a1).bind fun bt246 => (if bt244.1 = bt246.1 then ((fix_Neg.f a0).bind fun bt248 => ((fullerref01_Neg.f a0).bind fun bt250 => (if bt248.1 = bt250.1 then ((fix_Sqrt.f k a0).bind fun bt252 => ((fullerref01_Sqrt.f k a0).bind fun bt254 => (if bt252.1 = bt254.1 then ((fix_Pow.f k a0).bind fun bt256 => ((fullerref01_Pow.f k a0).bind fun bt258 => (if bt256.1 = bt258.1 then ((fix_Slope.f k a0).bind fun bt260 => ((fullerref01_Slope.f k a0).bind fun bt262 => (if t231 = true then (if t233 = bt234.2 then (if bt236.2 = bt238.2 then (if bt240.2 = bt242.2 then (if bt244.2 = bt246.2 then (if bt248.2 = bt250.2 then (if bt252.2 = bt254.2 then (if bt256.2 = bt258.2 then (if bt260.1 = bt262.1 then (some (bt260.2 == bt262.2)) else (none)) else (none)) else (none)) else (none)) else (none)) else (none)) else (none)) else (none)) else (none)))) else (none)))) else (none)))) else (none)))) else (none)))) else (none)))) else (none)))) else (none))) = some r := H
  have A4 := Aside0.mk A40
  clear A40
  replace H := Option.bind_eq_some_iff.mp H
  obtain ⟨⟨t234, t235⟩, A50, H⟩ := H
  replace H : (if t232 = t234 then ((fix_Sub.f a0 a1).bind fun bt236 => ((fullerref01_Sub.f a0 a1).bind fun bt238 => (if bt236.1 = bt238.1 then ((fix_Mul.f a0 a1).bind fun bt240 => ((fullerref01_Mul.f k a0 a1).bind fun bt242 => (if bt240.1 = bt242.1 then ((fix_Div.f k a0 a1).bind fun bt244 => ((fullerref01_Div.f k a0 a1).bind fun bt246 => (if bt244.1 = bt246.1 then ((fix_Neg.f a0).bind fun bt248 => ((fullerref01_Neg.f a0).bind fun bt250 => (if bt248.1 = bt250.1 then ((fix_Sqrt.f k a0).bind fun bt252 => ((fullerref01_Sqrt.f k a0).bind fun bt254 => (if bt252.1 = bt254.1 then ((fix_Pow.f k a0).bind fun bt256 => ((fullerref01_Pow.f k a0).bind fun bt258 => (if bt256.1 = bt258.1 then ((fix_Slope.f k a0).bind fun bt260 => ((fullerref01_Slope.f k a0).bind fun bt262 => (if t231 = true then (if t233 = t235 then (if bt236.2 = bt238.2 then (if bt240.2 = bt242.2 then (if bt244.2 = bt246.2 then (if bt248.2 = bt250.2 then (if bt252.2 = bt254.2 then (if bt256.2 = bt258.2 then (if bt260.1 = bt262.1 then (some (bt260.2 == bt262.2)) else (none)) else (none)) else (none)) else (none)) else (none)) else (none)) else (none)) else (none)) else (none)))) else (none)))) else (none)))) else (none)))) else (none)))) else (none)))) else (none)))) else (none)) = some r := H
  have A5 := Aside0.mk A50
  clear A50
  by_cases c6 : t232 = t234
  · rw [if_pos c6] at H
    have c6b0 : (t232 == t234) = true := beq_iff_eq.mpr c6
    have c6b1 : (t232 != t234) = false := bne_eq_false_iff_eq.mpr c6
    clear c6
    replace H := Option.bind_eq_some_iff.mp H
    obtain ⟨⟨t236, t237⟩, A70, H⟩ := H
    replace H : ((fullerref01_Sub.f a0 a1).bind fun bt238 => (if t236 = bt238.1 then ((fix_Mul.f a0 a1).bind fun bt240 => ((fullerref01_Mul.f k a0 a1).bind fun bt242 => (if bt240.1 = bt242.1 then ((fix_Div.f k a0 a1).bind fun bt244 => ((fullerref01_Div.f k a0 a1).bind fun bt246 => (if bt244.1 = bt246.1 then ((fix_Neg.f a0).bind fun bt248 => ((fullerref01_Neg.f a0).bind fun bt250 => (if bt248.1 = bt250.1 then ((fix_Sqrt.f k a0).bind fun bt252 => ((fullerref01_Sqrt.f k a0).bind fun bt254 => (if bt252.1 = bt254.1 then ((fix_Pow.f k a0).bind fun bt256 => ((fullerref01_Pow.f k a0).bind fun bt258 => (if bt256.1 = bt258.1 then ((fix_Slope.f k a0).bind fun bt260 => ((fullerref01_Slope.f k a0).bind fun bt262 => (if t231 = true then (if t233 = t235 then (if t237 = bt238.2 then (if bt240.2 = bt242.2 then (if bt244.2 = bt246.2 then (if bt248.2 = bt250.2 then (if bt252.2 = bt254.2 then (if bt256.2 = bt258.2 then (if bt260.1 = bt262.1 then (some (bt260.2 == bt262.2)) else (none)) else (none)) else (none)) else (none)) else (none)) else (none)) else (none)) else (none)) else (none)))) else (none)))) else (none)))) else (none)))) else (none)))) else (none)))) else (none))) = some r := H
    have A7 := Aside0.mk A70
    clear A70
    replace H := Option.bind_eq_some_iff.mp H
    obtain ⟨⟨t238, t239⟩, A80, H⟩ := H
    replace H : (if t236 = t238 then ((fix_Mul.f a0 a1).bind fun bt240 => ((fullerref01_Mul.f k a0 a1).bind fun bt242 => (if bt240.1 = bt242.1 then ((fix_Div.f k a0 a1).bind fun bt244 => ((fullerref01_Div.f k a0 a1).bind fun bt246 => (if bt244.1 = bt246.1 then ((fix_Neg.f a0).bind fun bt248 => ((fullerref01_Neg.f a0).bind fun bt250 => (if bt248.1 = bt250.1 then ((fix_Sqrt.f k a0).bind fun bt252 => ((fullerref01_Sqrt.f k a0).bind fun bt254 => (if bt252.1 = bt254.1 then ((fix_Pow.f k a0).bind fun bt256 => ((fullerref01_Pow.f k a0).bind fun bt258 => (if bt256.1 = bt258.1 then ((fix_Slope.f k a0).bind fun bt260 => ((fullerref01_Slope.f k a0).bind fun bt262 => (if t231 = true then (if t233 = t235 then (if t237 = t239 then (if bt240.2 = bt242.2 then (if bt244.2 = bt246.2 then (if bt248.2 = bt250.2 then (if bt252.2 = bt254.2 then (if bt256.2 = bt258.2 then (if bt260.1 = bt262.1 then (some (bt260.2 == bt262.2)) else (none)) else (none)) else (none)) else (none)) else (none)) else (none)) else (none)) else (none)) else (none)))) else (none)))) else (none)))) else (none)))) else (none)))) else (none)))) else (none)) = some r := H
    have A8 := Aside0.mk A80
    clear A80
    by_cases c9 : t236 = t238
    · rw [if_pos c9] at H
      have c9b0 : (t236 == t238) = true := beq_iff_eq.mpr c9
      have c9b1 : (t236 != t238) = false := bne_eq_false_iff_eq.mpr c9
      clear c9
      replace H := Option.bind_eq_some_iff.mp H
      obtain ⟨⟨t240, t241⟩, A100, H⟩ := H
      replace H : ((fullerref01_Mul.f k a0 a1).bind fun bt242 => (if t240 = bt242.1 then ((fix_Div.f k a0 a1).bind fun bt244 => ((fullerref01_Div.f k a0 a1).bind fun bt246 => (if bt244.1 = bt246.1 then ((fix_Neg.f a0).bind fun bt248 => ((fullerref01_Neg.f a0).bind fun bt250 => (if bt248.1 = bt250.1 then ((fix_Sqrt.f k a0).bind fun bt252 => ((fullerref01_Sqrt.f k a0).bind fun bt254 => (if bt252.1 = bt254.1 then ((fix_Pow.f k a0).bind fun bt256 => ((fullerref01_Pow.f k a0).bind fun bt258 => (if bt256.1 = bt258.1 then ((fix_Slope.f k a0).bind fun bt260 => ((fullerref01_Slope.f k a0).bind fun bt262 => (if t231 = true then (if t233 = t235 then (if t237 = t239 then (if t241 = bt242.2 then (if bt244.2 = bt246.2 then (if bt248.2 = bt250.2 then (if bt252.2 = bt254.2 then (if bt256.2 = bt258.2 then (if bt260.1 = bt262.1 then (some (bt260.2 == bt262.2)) else (none)) else (none)) else (none)) else (none)) else (none)) else (none)) else (none)) else (none)) else (none)))) else (none)))) else (none)))) else (none)))) else (none)))) else (none))) = some r := H
      have A10 := Aside0.mk A100
      clear A100
      replace H := Option.bind_eq_some_iff.mp H
      obtain ⟨⟨t242, t243⟩, A110, H⟩ := H
      replace H : (if t240 = t242 then ((fix_Div.f k a0 a1).bind fun bt244 => ((fullerref01_Div.f k a0 a1).bind fun bt246 => (if bt244.1 = bt246.1 then ((fix_Neg.f a0).bind fun bt248 => ((fullerref01_Neg.f a0).bind fun bt250 => (if bt248.1 = bt250.1 then ((fix_Sqrt.f k a0).bind fun bt252 => ((fullerref01_Sqrt.f k a0).bind fun bt254 => (if bt252.1 = bt254.1 then ((fix_Pow.f k a0).bind fun bt256 => ((fullerref01_Pow.f k a0).bind fun bt258 => (if bt256.1 = bt258.1 then ((fix_Slope.f k a0).bind fun bt260 => ((fullerref01_Slope.f k a0).bind fun bt262 => (if t231 = true then (if t233 = t235 then (if t237 = t239 then (if t241 = t243 then (if bt244.2 = bt246.2 then (if bt248.2 = bt250.2 then (if bt252.2 = bt254.2 then (if bt256.2 = bt258.2 then (if bt260.1 = bt262.1 then (some (bt260.2 == bt262.2)) else (none)) else (none)) else (none)) else (none)) else (none)) else (none)) else (none)) else (none)) else (none)))) else (none)))) else (none)))) else (none)))) else (none)))) else (none)) = some r := H
      have A11 := Aside0.mk A110
      clear A110
      by_cases c12 : t240 = t242
      · rw [if_pos c12] at H
        have c12b0 : (t240 == t242) = true := beq_iff_eq.mpr c12
        have c12b1 : (t240 != t242) = false := bne_eq_false_iff_eq.mpr c12
        clear c12
        replace H := Option.bind_eq_some_iff.mp H
        obtain ⟨⟨t244, t245⟩, A130, H⟩ := H
        replace H : ((fullerref01_Div.f k a0 a1).bind fun bt246 => (if t244 = bt246.1 then ((fix_Neg.f a0).bind fun bt248 => ((fullerref01_Neg.f a0).bind fun bt250 => (if bt248.1 = bt250.1 then ((fix_Sqrt.f k a0).bind fun bt252 => ((fullerref01_Sqrt.f k a0).bind fun bt254 => (if bt252.1 = bt254.1 then ((fix_Pow.f k a0).bind fun bt256 => ((fullerref01_Pow.f k a0).bind fun bt258 => (if bt256.1 = bt258.1 then ((fix_Slope.f k a0).bind fun bt260 => ((fullerref01_Slope.f k a0).bind fun bt262 => (if t231 = true then (if t233 = t235 then (if t237 = t239 then (if t241 = t243 then (if t245 = bt246.2 then (if bt248.2 = bt250.2 then (if bt252.2 = bt254.2 then (if bt256.2 = bt258.2 then (if bt260.1 = bt262.1 then (some (bt260.2 == bt262.2)) else (none)) else (none)) else (none)) else (none)) else (none)) else (none)) else (none)) else (none)) else (none)))) else (none)))) else (none)))) else (none)))) else (none))) = some r := H
        have A13 := Aside0.mk A130
        clear A130
        replace H := Option.bind_eq_some_iff.mp H
        obtain ⟨⟨t246, t247⟩, A140, H⟩ := H
        replace H : (if t244 = t246 then ((fix_Neg.f a0).bind fun bt248 => ((fullerref01_Neg.f a0).bind fun bt250 => (if bt248.1 = bt250.1 then ((fix_Sqrt.f k a0).bind fun bt252 => ((fullerref01_Sqrt.f k a0).bind fun bt254 => (if bt252.1 = bt254.1 then ((fix_Pow.f k a0).bind fun bt256 => ((fullerref01_Pow.f k a0).bind fun bt258 => (if bt256.1 = bt258.1 then ((fix_Slope.f k a0).bind fun bt260 => ((fullerref01_Slope.f k a0).bind fun bt262 => (if t231 = true then (if t233 = t235 then (if t237 = t239 then (if t241 = t243 then (if t245 = t247 then (if bt248.2 = bt250.2 then (if bt252.2 = bt254.2 then (if bt256.2 = bt258.2 then (if bt260.1 = bt262.1 then (some (bt260.2 == bt262.2)) else (none)) else (none)) else (none)) else (none)) else (none)) else (none)) else (none)) else (none)) else (none)))) else (none)))) else (none)))) else (none)))) else (none)) = some r := H
        have A14 := Aside0.mk A140
        clear A140
        by_cases c15 : t244 = t246
        · rw [if_pos c15] at H
          have c15b0 : (t244 == t246) = true := beq_iff_eq.mpr c15
          have c15b1 : (t244 != t246) = false := bne_eq_false_iff_eq.mpr c15
          clear c15
          replace H := Option.bind_eq_some_iff.mp H
          obtain ⟨⟨t248, t249⟩, A160, H⟩ := H
          replace H : ((fullerref01_Neg.f a0).bind fun bt250 => (if t248 = bt250.1 then ((fix_Sqrt.f k a0).bind fun bt252 => ((fullerref01_Sqrt.f k a0).bind fun bt254 => (if bt252.1 = bt254.1 then ((fix_Pow.f k a0).bind fun bt256 => ((fullerref01_Pow.f k a0).bind fun bt258 => (if bt256.1 = bt258.1 then ((fix_Slope.f k a0).bind fun bt260 => ((fullerref01_Slope.f k a0).bind fun bt262 => (if t231 = true then (if t233 = t235 then (if t237 = t239 then (if t241 = t243 then (if t245 = t247 then (if t249 = bt250.2 then (if bt252.2 = bt254.2 then (if bt256.2 = bt258.2 then (if bt260.1 = bt262.1 then (some (bt260.2 == bt262.2)) else (none)) else (none)) else (none)) else (none)) else (none)) else (none)) else (none)) else (none)) else (none)))) else (none)))) else (none)))) else (none))) = some r := H
          have A16 := Aside0.mk A160
          clear A160
          replace H := Option.bind_eq_some_iff.mp H
          obtain ⟨⟨t250, t251⟩, A170, H⟩ := H
          replace H : (if t248 = t250 then ((fix_Sqrt.f k a0).bind fun bt252 => ((fullerref01_Sqrt.f k a0).bind fun bt254 => (if bt252.1 = bt254.1 then ((fix_Pow.f k a0).bind fun bt256 => ((fullerref01_Pow.f k a0).bind fun bt258 => (if bt256.1 = bt258.1 then ((fix_Slope.f k a0).bind fun bt260 => ((fullerref01_Slope.f k a0).bind fun bt262 => (if t231 = true then (if t233 = t235 then (if t237 = t239 then (if t241 = t243 then (if t245 = t247 then (if t249 = t251 then (if bt252.2 = bt254.2 then (if bt256.2 = bt258.2 then (if bt260.1 = bt262.1 then (some (bt260.2 == bt262.2)) else (none)) else (none)) else (none)) else (none)) else (none)) else (none)) else (none)) else (none)) else (none)))) else (none)))) else (none)))) else (none)) = some r := H
          have A17 := Aside0.mk A170
          clear A170
          by_cases c18 : t248 = t250
          · rw [if_pos c18] at H
            have c18b0 : (t248 == t250) = true := beq_iff_eq.mpr c18
            have c18b1 : (t248 != t250) = false := bne_eq_false_iff_eq.mpr c18
            clear c18
            replace H := Option.bind_eq_some_iff.mp H
            obtain ⟨⟨t252, t253⟩, A190, H⟩ := H
            replace H : ((fullerref01_Sqrt.f k a0).bind fun bt254 => (if t252 = bt254.1 then ((fix_Pow.f k a0).bind fun bt256 => ((fullerref01_Pow.f k a0).bind fun bt258 => (if bt256.1 = bt258.1 then ((fix_Slope.f k a0).bind fun bt260 => ((fullerref01_Slope.f k a0).bind fun bt262 => (if t231 = true then (if t233 = t235 then (if t237 = t239 then (if t241 = t243 then (if t245 = t247 then (if t249 = t251 then (if t253 = bt254.2 then (if bt256.2 = bt258.2 then (if bt260.1 = bt262.1 then (some (bt260.2 == bt262.2)) else (none)) else (none)) else (none)) else (none)) else (none)) else (none)) else (none)) else (none)) else (none)))) else (none)))) else (none))) = some r := H
            have A19 := Aside0.mk A190
            clear A190
            replace H := Option.bind_eq_some_iff.mp H
            obtain ⟨⟨t254, t255⟩, A200, H⟩ := H
            replace H : (if t252 = t254 then ((fix_Pow.f k a0).bind fun bt256 => ((fullerref01_Pow.f k a0).bind fun bt258 => (if bt256.1 = bt258.1 then ((fix_Slope.f k a0).bind fun bt260 => ((fullerref01_Slope.f k a0).bind fun bt262 => (if t231 = true then (if t233 = t235 then (if t237 = t239 then (if t241 = t243 then (if t245 = t247 then (if t249 = t251 then (if t253 = t255 then (if bt256.2 = bt258.2 then (if bt260.1 = bt262.1 then (some (bt260.2 == bt262.2)) else (none)) else (none)) else (none)) else (none)) else (none)) else (none)) else (none)) else (none)) else (none)))) else (none)))) else (none)) = some r := H
            have A20 := Aside0.mk A200
            clear A200
            by_cases c21 : t252 = t254
            · rw [if_pos c21] at H
              have c21b0 : (t252 == t254) = true := beq_iff_eq.mpr c21
              have c21b1 : (t252 != t254) = false := bne_eq_false_iff_eq.mpr c21
              clear c21
              replace H := Option.bind_eq_some_iff.mp H
              obtain ⟨⟨t256, t257⟩, A220, H⟩ := H
              replace H : ((fullerref01_Pow.f k a0).bind fun bt258 => (if t256 = bt258.1 then ((fix_Slope.f k a0).bind fun bt260 => ((fullerref01_Slope.f k a0).bind fun bt262 => (if t231 = true then (if t233 = t235 then (if t237 = t239 then (if t241 = t243 then (if t245 = t247 then (if t249 = t251 then (if t253 = t255 then (if t257 = bt258.2 then (if bt260.1 = bt262.1 then (some (bt260.2 == bt262.2)) else (none)) else (none)) else (none)) else (none)) else (none)) else (none)) else (none)) else (none)) else (none)))) else (none))) = some r := H
              have A22 := Aside0.mk A220
              clear A220
              replace H := Option.bind_eq_some_iff.mp H
              obtain ⟨⟨t258, t259⟩, A230, H⟩ := H
              replace H : (if t256 = t258 then ((fix_Slope.f k a0).bind fun bt260 => ((fullerref01_Slope.f k a0).bind fun bt262 => (if t231 = true then (if t233 = t235 then (if t237 = t239 then (if t241 = t243 then (if t245 = t247 then (if t249 = t251 then (if t253 = t255 then (if t257 = t259 then (if bt260.1 = bt262.1 then (some (bt260.2 == bt262.2)) else (none)) else (none)) else (none)) else (none)) else (none)) else (none)) else (none)) else (none)) else (none)))) else (none)) = some r := H
              have A23 := Aside0.mk A230
              clear A230
              by_cases c24 : t256 = t258
              · rw [if_pos c24] at H
                have c24b0 : (t256 == t258) = true := beq_iff_eq.mpr c24
                have c24b1 : (t256 != t258) = false := bne_eq_false_iff_eq.mpr c24
                clear c24
                replace H := Option.bind_eq_some_iff.mp H
                obtain ⟨⟨t260, t261⟩, A250, H⟩ := H
                replace H : ((fullerref01_Slope.f k a0).bind fun bt262 => (if t231 = true then (if t233 = t235 then (if t237 = t239 then (if t241 = t243 then (if t245 = t247 then (if t249 = t251 then (if t253 = t255 then (if t257 = t259 then (if t260 = bt262.1 then (some (t261 == bt262.2)) else (none)) else (none)) else (none)) else (none)) else (none)) else (none)) else (none)) else (none)) else (none))) = some r := H
                have A25 := Aside0.mk A250
                clear A250
                replace H := Option.bind_eq_some_iff.mp H
                obtain ⟨⟨t262, t263⟩, A260, H⟩ := H
                replace H : (if t231 = true then (if t233 = t235 then (if t237 = t239 then (if t241 = t243 then (if t245 = t247 then (if t249 = t251 then (if t253 = t255 then (if t257 = t259 then (if t260 = t262 then (some (t261 == t263)) else (none)) else (none)) else (none)) else (none)) else (none)) else (none)) else (none)) else (none)) else (none)) = some r := H
                have A26 := Aside0.mk A260
                clear A260
                by_cases c27 : t231 = true
                · subst c27
                  have H1 : (if t233 = t235 then (if t237 = t239 then (if t241 = t243 then (if t245 = t247 then (if t249 = t251 then (if t253 = t255 then (if t257 = t259 then (if t260 = t262 then (some (t261 == t263)) else (none)) else (none)) else (none)) else (none)) else (none)) else (none)) else (none)) else (none)) = some r := by rw [if_pos rfl] at H; exact H
                  clear H
                  have H := H1
                  clear H1
                  by_cases c28 : t233 = t235
                  · rw [if_pos c28] at H
                    have c28b0 : (t233 == t235) = true := beq_iff_eq.mpr c28
                    have c28b1 : (t233 != t235) = false := bne_eq_false_iff_eq.mpr c28
                    clear c28
                    by_cases c29 : t237 = t239
                    · rw [if_pos c29] at H
                      have c29b0 : (t237 == t239) = true := beq_iff_eq.mpr c29
                      have c29b1 : (t237 != t239) = false := bne_eq_false_iff_eq.mpr c29
                      clear c29
                      by_cases c30 : t241 = t243
                      · rw [if_pos c30] at H
                        have c30b0 : (t241 == t243) = true := beq_iff_eq.mpr c30
                        have c30b1 : (t241 != t243) = false := bne_eq_false_iff_eq.mpr c30
                        clear c30
                        by_cases c31 : t245 = t247
                        · rw [if_pos c31] at H
                          have c31b0 : (t245 == t247) = true := beq_iff_eq.mpr c31
                          have c31b1 : (t245 != t247) = false := bne_eq_false_iff_eq.mpr c31
                          clear c31
                          by_cases c32 : t249 = t251
                          · rw [if_pos c32] at H
                            have c32b0 : (t249 == t251) = true := beq_iff_eq.mpr c32
                            have c32b1 : (t249 != t251) = false := bne_eq_false_iff_eq.mpr c32
                            clear c32
                            by_cases c33 : t253 = t255
                            · rw [if_pos c33] at H
                              have c33b0 : (t253 == t255) = true := beq_iff_eq.mpr c33
                              have c33b1 : (t253 != t255) = false := bne_eq_false_iff_eq.mpr c33
                              clear c33
                              by_cases c34 : t257 = t259
                              · rw [if_pos c34] at H
                                have c34b0 : (t257 == t259) = true := beq_iff_eq.mpr c34
                                have c34b1 : (t257 != t259) = false := bne_eq_false_iff_eq.mpr c34
                                clear c34
                                by_cases c35 : t260 = t262
                                · rw [if_pos c35] at H
                                  have c35b0 : (t260 == t262) = true := beq_iff_eq.mpr c35
                                  have c35b1 : (t260 != t262) = false := bne_eq_false_iff_eq.mpr c35
                                  clear c35
                                  obtain rfl := Option.some.inj H
                                  go_enter Try.func9, Try.ntmps9
                                  go_wp2_with (first | ((with_reducible refine gate_callee (f := 10) rfl ?_); refine goesL_ (some 17) rfl rfl Try.func10 (by kernel_rfl) rfl #[] rfl (by (try simp only [List.map_toArray, List.map_cons, List.map_nil]); first | done | rfl | (simp only [List.length_drop, List.length_take]; rfl)) ?_; (with_reducible refine (fullerlaw01_awake.calls k  true _ A3.out).mono ?_); rintro e w36 ⟨rfl, hb⟩; refine ⟨_, rfl, ?_⟩; have n0_ := Aside0.mk (below_step (bq0_ HB.out) hb); clear HB; have HB := n0_; clear n0_; (try clear hb)) | ((with_reducible refine gate_callee (f := 14) rfl ?_); refine goesL_ (some 21) rfl rfl Try.func14 (by kernel_rfl) rfl #[.int .i64 a0, .int .i64 a1] rfl (by (try simp only [List.map_toArray, List.map_cons, List.map_nil]); first | done | rfl | (simp only [List.length_drop, List.length_take]; rfl)) ?_; (with_reducible refine (fix_Add.calls a0 a1 t232 t233 _ A4.out).mono ?_); rintro e w' ⟨rfl, ⟨nd, rfl⟩⟩; refine ⟨_, rfl, ?_⟩) | ((with_reducible refine gate_callee (f := 18) rfl ?_); refine goesL_ (some 27) rfl rfl Try.func18 (by kernel_rfl) rfl #[.int .i64 a0, .int .i64 a1] rfl (by (try simp only [List.map_toArray, List.map_cons, List.map_nil]); first | done | rfl | (simp only [List.length_drop, List.length_take]; rfl)) ?_; (with_reducible refine (fullerref01_Add.calls a0 a1 t234 t235 _ A5.out).mono ?_); rintro e w' ⟨rfl, ⟨nd, rfl⟩⟩; refine ⟨_, rfl, ?_⟩) | ((with_reducible refine gate_callee (f := 17) rfl ?_); refine goesL_ (some 41) rfl rfl Try.func17 (by kernel_rfl) rfl #[.int .i64 a0, .int .i64 a1] rfl (by (try simp only [List.map_toArray, List.map_cons, List.map_nil]); first | done | rfl | (simp only [List.length_drop, List.length_take]; rfl)) ?_; (with_reducible refine (fix_Sub.calls a0 a1 t236 t237 _ A7.out).mono ?_); rintro e w' ⟨rfl, ⟨nd, rfl⟩⟩; refine ⟨_, rfl, ?_⟩) | ((with_reducible refine gate_callee (f := 19) rfl ?_); refine goesL_ (some 47) rfl rfl Try.func19 (by kernel_rfl) rfl #[.int .i64 a0, .int .i64 a1] rfl (by (try simp only [List.map_toArray, List.map_cons, List.map_nil]); first | done | rfl | (simp only [List.length_drop, List.length_take]; rfl)) ?_; (with_reducible refine (fullerref01_Sub.calls a0 a1 t238 t239 _ A8.out).mono ?_); rintro e w' ⟨rfl, ⟨nd, rfl⟩⟩; refine ⟨_, rfl, ?_⟩) | ((with_reducible refine gate_callee (f := 12) rfl ?_); refine goesL_ (some 61) rfl rfl Try.func12 (by kernel_rfl) rfl #[.int .i64 a0, .int .i64 a1] rfl (by (try simp only [List.map_toArray, List.map_cons, List.map_nil]); first | done | rfl | (simp only [List.length_drop, List.length_take]; rfl)) ?_; (with_reducible refine (fix_Mul.calls a0 a1 t240 t241 _ A10.out).mono ?_); rintro e w37 ⟨rfl, hb⟩; refine ⟨_, rfl, ?_⟩; have n0_ := Aside0.mk (below_step (bq0_ HB.out) hb); clear HB; have HB := n0_; clear n0_; (try clear hb)) | ((with_reducible refine gate_callee (f := 20) rfl ?_); refine goesL_ (some 67) rfl rfl Try.func20 (by kernel_rfl) rfl #[.int .i64 a0, .int .i64 a1] rfl (by (try simp only [List.map_toArray, List.map_cons, List.map_nil]); first | done | rfl | (simp only [List.length_drop, List.length_take]; rfl)) ?_; (with_reducible refine (fullerref01_Mul.calls k a0 a1 t242 t243 _ A11.out).mono ?_); rintro e w' ⟨rfl, ⟨nd, rfl⟩⟩; refine ⟨_, rfl, ?_⟩) | ((with_reducible refine gate_callee (f := 11) rfl ?_); refine goesL_ (some 81) rfl rfl Try.func11 (by kernel_rfl) rfl #[.int .i64 a0, .int .i64 a1] rfl (by (try simp only [List.map_toArray, List.map_cons, List.map_nil]); first | done | rfl | (simp only [List.length_drop, List.length_take]; rfl)) ?_; (with_reducible refine (fix_Div.calls k a0 a1 t244 t245 _ A13.out).mono ?_); rintro e w38 ⟨rfl, hb⟩; refine ⟨_, rfl, ?_⟩; have n0_ := Aside0.mk (below_step (bq0_ HB.out) hb); clear HB; have HB := n0_; clear n0_; (try clear hb)) | ((with_reducible refine gate_callee (f := 21) rfl ?_); refine goesL_ (some 87) rfl rfl Try.func21 (by kernel_rfl) rfl #[.int .i64 a0, .int .i64 a1] rfl (by (try simp only [List.map_toArray, List.map_cons, List.map_nil]); first | done | rfl | (simp only [List.length_drop, List.length_take]; rfl)) ?_; (with_reducible refine (fullerref01_Div.calls k a0 a1 t246 t247 _ A14.out).mono ?_); rintro e w' ⟨rfl, ⟨nd, rfl⟩⟩; refine ⟨_, rfl, ?_⟩) | ((with_reducible refine gate_callee (f := 16) rfl ?_); refine goesL_ (some 100) rfl rfl Try.func16 (by kernel_rfl) rfl #[.int .i64 a0] rfl (by (try simp only [List.map_toArray, List.map_cons, List.map_nil]); first | done | rfl | (simp only [List.length_drop, List.length_take]; rfl)) ?_; (with_reducible refine (fix_Neg.calls a0 t248 t249 _ A16.out).mono ?_); rintro e w' ⟨rfl, ⟨nd, rfl⟩⟩; refine ⟨_, rfl, ?_⟩) | ((with_reducible refine gate_callee (f := 22) rfl ?_); refine goesL_ (some 105) rfl rfl Try.func22 (by kernel_rfl) rfl #[.int .i64 a0] rfl (by (try simp only [List.map_toArray, List.map_cons, List.map_nil]); first | done | rfl | (simp only [List.length_drop, List.length_take]; rfl)) ?_; (with_reducible refine (fullerref01_Neg.calls a0 t250 t251 _ A17.out).mono ?_); rintro e w' ⟨rfl, ⟨nd, rfl⟩⟩; refine ⟨_, rfl, ?_⟩) | ((with_reducible refine gate_callee (f := 13) rfl ?_); refine goesL_ (some 118) rfl rfl Try.func13 (by kernel_rfl) rfl #[.int .i64 a0] rfl (by (try simp only [List.map_toArray, List.map_cons, List.map_nil]); first | done | rfl | (simp only [List.length_drop, List.length_take]; rfl)) ?_; (with_reducible refine (fix_Sqrt.calls k a0 t252 t253 _ A19.out).mono ?_); rintro e w' ⟨rfl, ⟨nd, rfl⟩⟩; refine ⟨_, rfl, ?_⟩) | ((with_reducible refine gate_callee (f := 23) rfl ?_); refine goesL_ (some 123) rfl rfl Try.func23 (by kernel_rfl) rfl #[.int .i64 a0] rfl (by (try simp only [List.map_toArray, List.map_cons, List.map_nil]); first | done | rfl | (simp only [List.length_drop, List.length_take]; rfl)) ?_; (with_reducible refine (fullerref01_Sqrt.calls k a0 t254 t255 _ A20.out).mono ?_); rintro e w' ⟨rfl, ⟨nd, rfl⟩⟩; refine ⟨_, rfl, ?_⟩) | ((with_reducible refine gate_callee (f := 15) rfl ?_); refine goesL_ (some 136) rfl rfl Try.func15 (by kernel_rfl) rfl #[.int .i64 a0] rfl (by (try simp only [List.map_toArray, List.map_cons, List.map_nil]); first | done | rfl | (simp only [List.length_drop, List.length_take]; rfl)) ?_; (with_reducible refine (fix_Pow.calls k a0 t256 t257 _ A22.out).mono ?_); rintro e w39 ⟨rfl, hb⟩; refine ⟨_, rfl, ?_⟩; have n0_ := Aside0.mk (below_step (bq0_ HB.out) hb); clear HB; have HB := n0_; clear n0_; (try clear hb)) | ((with_reducible refine gate_callee (f := 24) rfl ?_); refine goesL_ (some 141) rfl rfl Try.func24 (by kernel_rfl) rfl #[.int .i64 a0] rfl (by (try simp only [List.map_toArray, List.map_cons, List.map_nil]); first | done | rfl | (simp only [List.length_drop, List.length_take]; rfl)) ?_; (with_reducible refine (fullerref01_Pow.calls k a0 t258 t259 _ A23.out).mono ?_); rintro e w' ⟨rfl, ⟨nd, rfl⟩⟩; refine ⟨_, rfl, ?_⟩) | ((with_reducible refine gate_callee (f := 25) rfl ?_); refine goesL_ (some 154) rfl rfl Try.func25 (by kernel_rfl) rfl #[.int .i64 a0] rfl (by (try simp only [List.map_toArray, List.map_cons, List.map_nil]); first | done | rfl | (simp only [List.length_drop, List.length_take]; rfl)) ?_; (with_reducible refine (fix_Slope.calls k a0 t260 t261 _ A25.out).mono ?_); rintro e w40 ⟨rfl, hb⟩; refine ⟨_, rfl, ?_⟩; have n0_ := Aside0.mk (below_step (bq0_ HB.out) hb); clear HB; have HB := n0_; clear n0_; (try clear hb)) | ((with_reducible refine gate_callee (f := 26) rfl ?_); refine goesL_ (some 159) rfl rfl Try.func26 (by kernel_rfl) rfl #[.int .i64 a0] rfl (by (try simp only [List.map_toArray, List.map_cons, List.map_nil]); first | done | rfl | (simp only [List.length_drop, List.length_take]; rfl)) ?_; (with_reducible refine (fullerref01_Slope.calls k a0 t262 t263 _ A26.out).mono ?_); rintro e w' ⟨rfl, ⟨nd, rfl⟩⟩; refine ⟨_, rfl, ?_⟩))
                                  go_ret
                                  exact ⟨by first | rfl | (simp [errW_none, errW_some] <;> rfl) | (simp [*, errW_none, errW_some] <;> rfl), by repeat (first | (with_reducible first | exact HB.out | apply below_alloc | apply pw_below_drewN | apply below_drew1) | exact HB.out)⟩
                                · rw [if_neg c35] at H
                                  exact absurd H (by simp)
                              · rw [if_neg c34] at H
                                exact absurd H (by simp)
                            · rw [if_neg c33] at H
                              exact absurd H (by simp)
                          · rw [if_neg c32] at H
                            exact absurd H (by simp)
                        · rw [if_neg c31] at H
                          exact absurd H (by simp)
                      · rw [if_neg c30] at H
                        exact absurd H (by simp)
                    · rw [if_neg c29] at H
                      exact absurd H (by simp)
                  · rw [if_neg c28] at H
                    exact absurd H (by simp)
                · replace c27 := Bool.eq_false_iff.mpr c27
                  subst c27
                  have H1 : (none) = some r := by rw [if_neg (show ¬ (false = true) by decide)] at H; exact H
                  clear H
                  have H := H1
                  clear H1
                  exact absurd H (by simp)
              · rw [if_neg c24] at H
                exact absurd H (by simp)
            · rw [if_neg c21] at H
              exact absurd H (by simp)
          · rw [if_neg c18] at H
            exact absurd H (by simp)
        · rw [if_neg c15] at H
          exact absurd H (by simp)
      · rw [if_neg c12] at H
        exact absurd H (by simp)
    · rw [if_neg c9] at H
      exact absurd H (by simp)
  · rw [if_neg c6] at H
    exact absurd H (by simp)

/-- THE ONE PURE STATEMENT of fullerlaw01_FixTells: yours. -/
def fullerlaw01_FixTells.Pure : Prop := ∀ (a0 : Int) (a1 : Int), (Lit.int .i64 a0).wf = true → (Lit.int .i64 a1).wf = true → ∃ k, fullerlaw01_FixTells.f k a0 a1 = some true
theorem fullerlaw01_FixTells.walk (P : fullerlaw01_FixTells.Pure) (a0 : Int) (a1 : Int) (w : World) (w0 : (Lit.int .i64 a0).wf = true) (w1 : (Lit.int .i64 a1).wf = true) :
    Calls Try.prog 9 #[.int .i64 a0, .int .i64 a1] w fun e w' => e = .returned (.bool true) ∧ Below w.heap.size w w' := by
  obtain ⟨k, h⟩ := P a0 a1 w0 w1
  refine (fullerlaw01_FixTells.calls k a0 a1 true w h).mono ?_
  rintro e w' ⟨rfl, hd⟩
  exact ⟨rfl, hd⟩

end Go.Proofs.Ytkebkghhncelpaa.A
