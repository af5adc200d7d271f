/- Lean functions that answer as the Go functions do, and the proofs that they do; no conditions. Written by this session's own driver: a scratch copy of the kit's print with the session's additions (wip/xprint). -/
import Derived.Test.YtkebkghhncelpaaAx0
import Derived.Test.YtkebkghhncelpaaAx4
import Derived.Test.YtkebkghhncelpaaAx5
import Derived.Test.YtkebkghhncelpaaAx6
import Derived.Test.YtkebkghhncelpaaAx11
namespace Go.Proofs.Ytkebkghhncelpaa.A
open Go.RowKit Go.Proofs.YtkebkghhncelpaaW.PrintWords Go.Proofs.YtkebkghhncelpaaW.PrintLast Go.Proofs.YtkebkghhncelpaaW.PrintMore
attribute [local go_sem] max2_int min2_int max_two min_two max_three min_three max_four min_four   -- for this text's walks alone
set_option linter.unusedVariables false
set_option linter.unusedSimpArgs false

/-! ### fullerlaw01_FixBack: function 8 -/
def fullerlaw01_FixBack.f (k : Nat) (a0 : Int) (a1 : Int) : Option (Bool) := (fullerlaw01_awake.f k).bind fun t185 => ((fix_Add.f a0 a1).bind fun bt186 => ((fix_Add.f a1 a0).bind fun bt188 => ((fix_Mul.f a0 a1).bind fun bt190 => ((fix_Mul.f a1 a0).bind fun bt192 => ((fix_Sub.f bt186.1 a1).bind fun bt194 => ((fix_Sub.f a0 a1).bind fun bt196 => ((fix_Add.f bt196.1 a1).bind fun bt198 => (if bt186.2 = 0 then (if bt194.2 = 0 then (if bt196.2 = 0 then (if bt198.2 = 0 then (if t185 = true then (if bt186.1 = bt188.1 then (if bt186.2 = bt188.2 then (if bt190.1 = bt192.1 then (if bt190.2 = bt192.2 then (if bt194.1 = a0 then (some (bt198.1 == a0)) else (none)) else (none)) else (none)) else (none)) else (none)) else (none)) else (none)) else (if bt196.1 = 0 then (if t185 = true then (if bt186.1 = bt188.1 then (if bt186.2 = bt188.2 then (if bt190.1 = bt192.1 then (if bt190.2 = bt192.2 then (if bt194.1 = a0 then (some true) else (none)) else (none)) else (none)) else (none)) else (none)) else (none)) else (none))) else (none)) else (if bt186.1 = 0 then (if bt196.2 = 0 then (if bt198.2 = 0 then (if t185 = true then (if bt186.1 = bt188.1 then (if bt186.2 = bt188.2 then (if bt190.1 = bt192.1 then (if bt190.2 = bt192.2 then (some (bt198.1 == a0)) else (none)) else (none)) else (none)) else (none)) else (none)) else (none)) else (if bt196.1 = 0 then (if t185 = true then (if bt186.1 = bt188.1 then (if bt186.2 = bt188.2 then (if bt190.1 = bt192.1 then (if bt190.2 = bt192.2 then (some true) else (none)) else (none)) else (none)) else (none)) else (none)) else (none))) else (none))))))))))
theorem fullerlaw01_FixBack.mono : ∀ a0 a1 k, LeO (fullerlaw01_FixBack.f k a0 a1) (fullerlaw01_FixBack.f (k + 1) a0 a1) := by
  intro a0 a1 k
  unfold fullerlaw01_FixBack.f
  repeat' first
      | (with_reducible exact fullerlaw01_awake.mono _)
      | (with_reducible exact LeO.refl _)
      | (with_reducible exact LeO.none _)
      | (with_reducible refine LeO.ite ?_ ?_)
      | (with_reducible refine LeO.bind ?_ (fun _ => ?_))
      | exact fullerlaw01_awake.mono _
      | exact LeO.none _
      | refine LeO.ite ?_ ?_
      | refine LeO.bind ?_ (fun _ => ?_)
set_option maxHeartbeats 8000000 in
set_option maxRecDepth 100000 in
theorem fullerlaw01_FixBack.calls (k : Nat) (a0 : Int) (a1 : Int) (r : Bool) (w : World) (h : fullerlaw01_FixBack.f k a0 a1 = some r) :
    Calls Try.prog 8 #[.int .i64 a0, .int .i64 a1] w fun e w' => e = .returned (.bool r) ∧ Below w.heap.size w w' := by
  have HB := Aside0.mk (Below.refl w.heap.size w)
  have H : ((fullerlaw01_awake.f k).bind fun t185 => ((fix_Add.f a0 a1).bind fun bt186 => ((fix_Add.f a1 a0).bind fun bt188 => ((fix_Mul.f a0 a1).bind fun bt190 => ((fix_Mul.f a1 a0).bind fun bt192 => ((fix_Sub.f bt186.1 a1).bind fun bt194 => ((fix_Sub.f a0 a1).bind fun bt196 => ((fix_Add.f bt196.1 a1).bind fun bt198 => (if bt186.2 = 0 then (if bt194.2 = 0 then (if bt196.2 = 0 then (if bt198.2 = 0 then (if t185 = true then (if bt186.1 = bt188.1 then (if bt186.2 = bt188.2 then (if bt190.1 = bt192.1 then (if bt190.2 = bt192.2 then (if bt194.1 = a0 then (some (bt198.1 == a0)) else (none)) else (none)) else (none)) else (none)) else (none)) else (none)) else (none)) else (if bt196.1 = 0 then (if t185 = true then (if bt186.1 = bt188.1 then (if bt186.2 = bt188.2 then (if bt190.1 = bt192.1 then (if bt190.2 = bt192.2 then (if bt194.1 = a0 then (some true) else (none)) else (none)) else (none)) else (none)) else (none)) else (none)) else (none))) else (none)) else (if bt186.1 = 0 then (if bt196.2 = 0 then (if bt198.2 = 0 then (if t185 = true then (if bt186.1 = bt188.1 then (if bt186.2 = bt188.2 then (if bt190.1 = bt192.1 then (if bt190.2 = bt192.2 then (some (bt198.1 == a0)) else (none)) else (none)) else (none)) else (none)) else (none)) else (none)) else (if bt196.1 = 0 then (if t185 = true then (if bt186.1 = bt188.1 then (if bt186.2 = bt188.2 then (if bt190.1 = bt192.1 then (if bt190.2 = bt192.2 then (some true) else (none)) else (none)) else (none)) else (none)) else (none)) else (none))) else (none))))))))))) = some r := h
  clear h
  replace H := Option.bind_eq_some_iff.mp H
  obtain ⟨t185, A30, H⟩ := H
  replace H : ((fix_Add.f a0 a1).bind fun bt186 => ((fix_Add.f a1 a0).bind fun bt188 => ((fix_Mul.f a0 a1).bind fun bt190 => ((fix_Mul.f a1 a0).bind fun bt192 => ((fix_Sub.f bt186.1 a1).bind fun bt194 => ((fix_Sub.f a0 a1).bind fun bt196 => ((fix_Add.f bt196.1 a1).bind fun bt198 => (if bt186.2 = 0 then (if bt194.2 = 0 then (if bt196.2 = 0 then (if bt198.2 = 0 then (if t185 = true then (if bt186.1 = bt188.1 then (if bt186.2 = bt188.2 then (if bt190.1 = bt192.1 then (if bt190.2 = bt192.2 then (if bt194.1 = a0 then (some (bt198.1 == a0)) else (none)) else (none)) else (none)) else (none)) else (none)) else (none)) else (none)) else (if bt196.1 = 0 then (if t185 = true then (if bt186.1 = bt188.1 then (if bt186.2 = bt188.2 then (if bt190.1 = bt192.1 then (if bt190.2 = bt192.2 then (if bt194.1 = a0 then (some true) else (none)) else (none)) else (none)) else (none)) else (none)) else (none)) else (none))) else (none)) else (if bt186.1 = 0 then (if bt196.2 = 0 then (if bt198.2 = 0 then (if t185 = true then (if bt186.1 = bt188.1 then (if bt186.2 = bt188.2 then (if bt190.1 = bt192.1 then (if bt190.2 = bt192.2 then (some (bt198.1 == a0)) else (none)) else (none)) else (none)) else (none)) else (none)) else (none)) else (if bt196.1 = 0 then (if t185 = true then (if bt186.1 = bt188.1 then (if bt186.2 = bt188.2 then (if bt190.1 = bt192.1 then (if bt190.2 = bt192.2 then (some true) else (none)) else (none)) else (none)) else (none)) else (none)) else (none))) else (none)))))))))) = some r := H
  have A3 := Aside0.mk A30
  clear A30
  replace H := Option.bind_eq_some_iff.mp H
  obtain ⟨⟨t186, t187⟩, A40, H⟩ := H
  replace H : ((fix_Add.f a1 a0).bind fun bt188 => ((fix_Mul.f a0 a1).bind fun bt190 => ((fix_Mul.f a1 a0).bind fun bt192 => ((fix_Sub.f t186 a1).bind fun bt194 => ((fix_Sub.f a0 a1).bind fun bt196 => ((fix_Add.f bt196.1 a1).bind fun bt198 => (if t187 = 0 then (if bt194.2 = 0 then (if bt196.2 = 0 then (if bt198.2 = 0 then (if t185 = true then (if t186 = bt188.1 then (if t187 = bt188.2 then (if bt190.1 = bt192.1 then (if bt190.2 = bt192.2 then (if bt194.1 = a0 then (some (bt198.1 == a0)) else (none)) else (none)) else (none)) else (none)) else (none)) else (none)) else (none)) else (if bt196.1 = 0 then (if t185 = true then (if t186 = bt188.1 then (if t187 = bt188.2 then (if bt190.1 = bt192.1 then (if bt190.2 = bt192.2 then (if bt194.1 = a0 then (some true) else (none)) else (none)) else (none)) else (none)) else (none)) else (none)) else (none))) else (none)) else (if t186 = 0 then (if bt196.2 = 0 then (if bt198.2 = 0 then (if t185 = true then (if t186 = bt188.1 then (if t187 = bt188.2 then (if bt190.1 = bt192.1 then (if bt190.2 = bt192.2 then (some (bt198.1 == a0)) else (none)) else (none)) else (none)) else (none)) else (none)) else (none)) else (if bt196.1 = 0 then (if t185 = true then (if t186 = bt188.1 then (if t187 = bt188.2 then (if bt190.1 = bt192.1 then (if bt190.2 = bt192.2 then (some true) else (none)) else (none)) else (none)) else (none)) else (none)) else (none))) else (none))))))))) = some r := H
  have A4 := Aside0.mk A40
  clear A40
  replace H := Option.bind_eq_some_iff.mp H
  obtain ⟨⟨t188, t189⟩, A50, H⟩ := H
  replace H : ((fix_Mul.f a0 a1).bind fun bt190 => ((fix_Mul.f a1 a0).bind fun bt192 => ((fix_Sub.f t186 a1).bind fun bt194 => ((fix_Sub.f a0 a1).bind fun bt196 => ((fix_Add.f bt196.1 a1).bind fun bt198 => (if t187 = 0 then (if bt194.2 = 0 then (if bt196.2 = 0 then (if bt198.2 = 0 then (if t185 = true then (if t186 = t188 then (if t187 = t189 then (if bt190.1 = bt192.1 then (if bt190.2 = bt192.2 then (if bt194.1 = a0 then (some (bt198.1 == a0)) else (none)) else (none)) else (none)) else (none)) else (none)) else (none)) else (none)) else (if bt196.1 = 0 then (if t185 = true then (if t186 = t188 then (if t187 = t189 then (if bt190.1 = bt192.1 then (if bt190.2 = bt192.2 then (if bt194.1 = a0 then (some true) else (none)) else (none)) else (none)) else (none)) else (none)) else (none)) else (none))) else (none)) else (if t186 = 0 then (if bt196.2 = 0 then (if bt198.2 = 0 then (if t185 = true then (if t186 = t188 then (if t187 = t189 then (if bt190.1 = bt192.1 then (if bt190.2 = bt192.2 then (some (bt198.1 == a0)) else (none)) else (none)) else (none)) else (none)) else (none)) else (none)) else (if bt196.1 = 0 then (if t185 = true then (if t186 = t188 then (if t187 = t189 then (if bt190.1 = bt192.1 then (if bt190.2 = bt192.2 then (some true) else (none)) else (none)) else (none)) else (none)) else (none)) else (none))) else (none)))))))) = some r := H
  have A5 := Aside0.mk A50
  clear A50
  replace H := Option.bind_eq_some_iff.mp H
  obtain ⟨⟨t190, t191⟩, A60, H⟩ := H
  replace H : ((fix_Mul.f a1 a0).bind fun bt192 => ((fix_Sub.f t186 a1).bind fun bt194 => ((fix_Sub.f a0 a1).bind fun bt196 => ((fix_Add.f bt196.1 a1).bind fun bt198 => (if t187 = 0 then (if bt194.2 = 0 then (if bt196.2 = 0 then (if bt198.2 = 0 then (if t185 = true then (if t186 = t188 then (if t187 = t189 then (if t190 = bt192.1 then (if t191 = bt192.2 then (if bt194.1 = a0 then (some (bt198.1 == a0)) else (none)) else (none)) else (none)) else (none)) else (none)) else (none)) else (none)) else (if bt196.1 = 0 then (if t185 = true then (if t186 = t188 then (if t187 = t189 then (if t190 = bt192.1 then (if t191 = bt192.2 then (if bt194.1 = a0 then (some true) else (none)) else (none)) else (none)) else (none)) else (none)) else (none)) else (none))) else (none)) else (if t186 = 0 then (if bt196.2 = 0 then (if bt198.2 = 0 then (if t185 = true then (if t186 = t188 then (if t187 = t189 then (if t190 = bt192.1 then (if t191 = bt192.2 then (some (bt198.1 == a0)) else (none)) else (none)) else (none)) else (none)) else (none)) else (none)) else (if bt196.1 = 0 then (if t185 = true then (if t186 = t188 then (if t187 = t189 then (if t190 = bt192.1 then (if t191 = bt192.2 then (some true) else (none)) else (none)) else (none)) else (none)) else (none)) else (none))) else (none))))))) = some r := H
  have A6 := Aside0.mk A60
  clear A60
  replace H := Option.bind_eq_some_iff.mp H
  obtain ⟨⟨t192, t193⟩, A70, H⟩ := H
  replace H : ((fix_Sub.f t186 a1).bind fun bt194 => ((fix_Sub.f a0 a1).bind fun bt196 => ((fix_Add.f bt196.1 a1).bind fun bt198 => (if t187 = 0 then (if bt194.2 = 0 then (if bt196.2 = 0 then (if bt198.2 = 0 then (if t185 = true then (if t186 = t188 then (if t187 = t189 then (if t190 = t192 then (if t191 = t193 then (if bt194.1 = a0 then (some (bt198.1 == a0)) else (none)) else (none)) else (none)) else (none)) else (none)) else (none)) else (none)) else (if bt196.1 = 0 then (if t185 = true then (if t186 = t188 then (if t187 = t189 then (if t190 = t192 then (if t191 = t193 then (if bt194.1 = a0 then (some true) else (none)) else (none)) else (none)) else (none)) else (none)) else (none)) else (none))) else (none)) else (if t186 = 0 then (if bt196.2 = 0 then (if bt198.2 = 0 then (if t185 = true then (if t186 = t188 then (if t187 = t189 then (if t190 = t192 then (if t191 = t193 then (some (bt198.1 == a0)) else (none)) else (none)) else (none)) else (none)) else (none)) else (none)) else (if bt196.1 = 0 then (if t185 = true then (if t186 = t188 then (if t187 = t189 then (if t190 = t192 then (if t191 = t193 then (some true) else (none)) else (none)) else (none)) else (none)) else (none)) else (none))) else (none)))))) = some r := H
  have A7 := Aside0.mk A70
  clear A70
  replace H := Option.bind_eq_some_iff.mp H
  obtain ⟨⟨t194, t195⟩, A80, H⟩ := H
  replace H : ((fix_Sub.f a0 a1).bind fun bt196 => ((fix_Add.f bt196.1 a1).bind fun bt198 => (if t187 = 0 then (if t195 = 0 then (if bt196.2 = 0 then (if bt198.2 = 0 then (if t185 = true then (if t186 = t188 then (if t187 = t189 then (if t190 = t192 then (if t191 = t193 then (if t194 = a0 then (some (bt198.1 == a0)) else (none)) else (none)) else (none)) else (none)) else (none)) else (none)) else (none)) else (if bt196.1 = 0 then (if t185 = true then (if t186 = t188 then (if t187 = t189 then (if t190 = t192 then (if t191 = t193 then (if t194 = a0 then (some true) else (none)) else (none)) else (none)) else (none)) else (none)) else (none)) else (none))) else (none)) else (if t186 = 0 then (if bt196.2 = 0 then (if bt198.2 = 0 then (if t185 = true then (if t186 = t188 then (if t187 = t189 then (if t190 = t192 then (if t191 = t193 then (some (bt198.1 == a0)) else (none)) else (none)) else (none)) else (none)) else (none)) else (none)) else (if bt196.1 = 0 then (if t185 = true then (if t186 = t188 then (if t187 = t189 then (if t190 = t192 then (if t191 = t193 then (some true) else (none)) else (none)) else (none)) else (none)) else (none)) else (none))) else (none))))) = some r := H
  have A8 := Aside0.mk A80
  clear A80
  replace H := Option.bind_eq_some_iff.mp H
  obtain ⟨⟨t196, t197⟩, A90, H⟩ := H
  replace H : ((fix_Add.f t196 a1).bind fun bt198 => (if t187 = 0 then (if t195 = 0 then (if t197 = 0 then (if bt198.2 = 0 then (if t185 = true then (if t186 = t188 then (if t187 = t189 then (if t190 = t192 then (if t191 = t193 then (if t194 = a0 then (some (bt198.1 == a0)) else (none)) else (none)) else (none)) else (none)) else (none)) else (none)) else (none)) else (if t196 = 0 then (if t185 = true then (if t186 = t188 then (if t187 = t189 then (if t190 = t192 then (if t191 = t193 then (if t194 = a0 then (some true) else (none)) else (none)) else (none)) else (none)) else (none)) else (none)) else (none))) else (none)) else (if t186 = 0 then (if t197 = 0 then (if bt198.2 = 0 then (if t185 = true then (if t186 = t188 then (if t187 = t189 then (if t190 = t192 then (if t191 = t193 then (some (bt198.1 == a0)) else (none)) else (none)) else (none)) else (none)) else (none)) else (none)) else (if t196 = 0 then (if t185 = true then (if t186 = t188 then (if t187 = t189 then (if t190 = t192 then (if t191 = t193 then (some true) else (none)) else (none)) else (none)) else (none)) else (none)) else (none))) else (none)))) = some r := H
  have A9 := Aside0.mk A90
  clear A90
  replace H := Option.bind_eq_some_iff.mp H
  obtain ⟨⟨t198, t199⟩, A100, H⟩ := H
  replace H : (if t187 = 0 then (if t195 = 0 then (if t197 = 0 then (if t199 = 0 then (if t185 = true then (if t186 = t188 then (if t187 = t189 then (if t190 = t192 then (if t191 = t193 then (if t194 = a0 then (some (t198 == a0)) else (none)) else (none)) else (none)) else (none)) else (none)) else (none)) else (none)) else (if t196 = 0 then (if t185 = true then (if t186 = t188 then (if t187 = t189 then (if t190 = t192 then (if t191 = t193 then (if t194 = a0 then (some true) else (none)) else (none)) else (none)) else (none)) else (none)) else (none)) else (none))) else (none)) else (if t186 = 0 then (if t197 = 0 then (if t199 = 0 then (if t185 = true then (if t186 = t188 then (if t187 = t189 then (if t190 = t192 then (if t191 = t193 then (some (t198 == a0)) else (none)) else (none)) else (none)) else (none)) else (none)) else (none)) else (if t196 = 0 then (if t185 = true then (if t186 = t188 then (if t187 = t189 then (if t190 = t192 then (if t191 = t193 then (some true) else (none)) else (none)) else (none)) else (none)) else (none)) else (none))) else (none))) = some r := H
  have A10 := Aside0.mk A100
  clear A100
  by_cases c11 : t187 = 0
  · rw [if_pos c11] at H
    have c11b0 : (t187 == 0) = true := beq_iff_eq.mpr c11
    have c11b1 : (t187 != 0) = false := bne_eq_false_iff_eq.mpr c11
    clear c11
    by_cases c12 : t195 = 0
    · rw [if_pos c12] at H
      have c12b0 : (t195 == 0) = true := beq_iff_eq.mpr c12
      have c12b1 : (t195 != 0) = false := bne_eq_false_iff_eq.mpr c12
      clear c12
      by_cases c13 : t197 = 0
      · rw [if_pos c13] at H
        have c13b0 : (t197 == 0) = true := beq_iff_eq.mpr c13
        have c13b1 : (t197 != 0) = false := bne_eq_false_iff_eq.mpr c13
        clear c13
        by_cases c14 : t199 = 0
        · rw [if_pos c14] at H
          have c14b0 : (t199 == 0) = true := beq_iff_eq.mpr c14
          have c14b1 : (t199 != 0) = false := bne_eq_false_iff_eq.mpr c14
          clear c14
          by_cases c15 : t185 = true
          · subst c15
            have H1 : (if t186 = t188 then (if t187 = t189 then (if t190 = t192 then (if t191 = t193 then (if t194 = a0 then (some (t198 == a0)) else (none)) else (none)) else (none)) else (none)) else (none)) = some r := by rw [if_pos rfl] at H; exact H
            clear H
            have H := H1
            clear H1
            by_cases c16 : t186 = t188
            · rw [if_pos c16] at H
              have c16b0 : (t186 == t188) = true := beq_iff_eq.mpr c16
              have c16b1 : (t186 != t188) = false := bne_eq_false_iff_eq.mpr c16
              clear c16
              by_cases c17 : t187 = t189
              · rw [if_pos c17] at H
                have c17b0 : (t187 == t189) = true := beq_iff_eq.mpr c17
                have c17b1 : (t187 != t189) = false := bne_eq_false_iff_eq.mpr c17
                clear c17
                by_cases c18 : t190 = t192
                · rw [if_pos c18] at H
                  have c18b0 : (t190 == t192) = true := beq_iff_eq.mpr c18
                  have c18b1 : (t190 != t192) = false := bne_eq_false_iff_eq.mpr c18
                  clear c18
                  by_cases c19 : t191 = t193
                  · rw [if_pos c19] at H
                    have c19b0 : (t191 == t193) = true := beq_iff_eq.mpr c19
                    have c19b1 : (t191 != t193) = false := bne_eq_false_iff_eq.mpr c19
                    clear c19
                    by_cases c20 : t194 = a0
                    · rw [if_pos c20] at H
                      have c20b0 : (t194 == a0) = true := beq_iff_eq.mpr c20
                      have c20b1 : (t194 != a0) = false := bne_eq_false_iff_eq.mpr c20
                      clear c20
                      obtain rfl := Option.some.inj H
                      go_enter Try.func8, Try.ntmps8
                      go_wp2_with (first | ((with_reducible refine gate_callee (f := 10) rfl ?_); refine goesL_ (some 22) rfl rfl Try.func10 (by kernel_rfl) rfl #[] rfl (by (try simp only [List.map_toArray, List.map_cons, List.map_nil]); first | done | rfl | (simp only [List.length_drop, List.length_take]; rfl)) ?_; (with_reducible refine (fullerlaw01_awake.calls k  true _ A3.out).mono ?_); rintro e w21 ⟨rfl, hb⟩; refine ⟨_, rfl, ?_⟩; have n0_ := Aside0.mk (below_step (bq0_ HB.out) hb); clear HB; have HB := n0_; clear n0_; (try clear hb)) | ((with_reducible refine gate_callee (f := 14) rfl ?_); refine goesL_ (some 26) rfl rfl Try.func14 (by kernel_rfl) rfl #[.int .i64 a0, .int .i64 a1] rfl (by (try simp only [List.map_toArray, List.map_cons, List.map_nil]); first | done | rfl | (simp only [List.length_drop, List.length_take]; rfl)) ?_; (with_reducible refine (fix_Add.calls a0 a1 t186 t187 _ A4.out).mono ?_); rintro e w' ⟨rfl, ⟨nd, rfl⟩⟩; refine ⟨_, rfl, ?_⟩) | ((with_reducible refine gate_callee (f := 14) rfl ?_); refine goesL_ (some 32) rfl rfl Try.func14 (by kernel_rfl) rfl #[.int .i64 a1, .int .i64 a0] rfl (by (try simp only [List.map_toArray, List.map_cons, List.map_nil]); first | done | rfl | (simp only [List.length_drop, List.length_take]; rfl)) ?_; (with_reducible refine (fix_Add.calls a1 a0 t188 t189 _ A5.out).mono ?_); rintro e w' ⟨rfl, ⟨nd, rfl⟩⟩; refine ⟨_, rfl, ?_⟩) | ((with_reducible refine gate_callee (f := 12) rfl ?_); refine goesL_ (some 38) rfl rfl Try.func12 (by kernel_rfl) rfl #[.int .i64 a0, .int .i64 a1] rfl (by (try simp only [List.map_toArray, List.map_cons, List.map_nil]); first | done | rfl | (simp only [List.length_drop, List.length_take]; rfl)) ?_; (with_reducible refine (fix_Mul.calls a0 a1 t190 t191 _ A6.out).mono ?_); rintro e w22 ⟨rfl, hb⟩; refine ⟨_, rfl, ?_⟩; have n0_ := Aside0.mk (below_step (bq0_ HB.out) hb); clear HB; have HB := n0_; clear n0_; (try clear hb)) | ((with_reducible refine gate_callee (f := 12) rfl ?_); refine goesL_ (some 44) rfl rfl Try.func12 (by kernel_rfl) rfl #[.int .i64 a1, .int .i64 a0] rfl (by (try simp only [List.map_toArray, List.map_cons, List.map_nil]); first | done | rfl | (simp only [List.length_drop, List.length_take]; rfl)) ?_; (with_reducible refine (fix_Mul.calls a1 a0 t192 t193 _ A7.out).mono ?_); rintro e w23 ⟨rfl, hb⟩; refine ⟨_, rfl, ?_⟩; have n0_ := Aside0.mk (below_step (bq0_ HB.out) hb); clear HB; have HB := n0_; clear n0_; (try clear hb)) | ((with_reducible refine gate_callee (f := 17) rfl ?_); refine goesL_ (some 50) rfl rfl Try.func17 (by kernel_rfl) rfl #[.int .i64 t186, .int .i64 a1] rfl (by (try simp only [List.map_toArray, List.map_cons, List.map_nil]); first | done | rfl | (simp only [List.length_drop, List.length_take]; rfl)) ?_; (with_reducible refine (fix_Sub.calls t186 a1 t194 t195 _ A8.out).mono ?_); rintro e w' ⟨rfl, ⟨nd, rfl⟩⟩; refine ⟨_, rfl, ?_⟩) | ((with_reducible refine gate_callee (f := 17) rfl ?_); refine goesL_ (some 56) rfl rfl Try.func17 (by kernel_rfl) rfl #[.int .i64 a0, .int .i64 a1] rfl (by (try simp only [List.map_toArray, List.map_cons, List.map_nil]); first | done | rfl | (simp only [List.length_drop, List.length_take]; rfl)) ?_; (with_reducible refine (fix_Sub.calls a0 a1 t196 t197 _ A9.out).mono ?_); rintro e w' ⟨rfl, ⟨nd, rfl⟩⟩; refine ⟨_, rfl, ?_⟩) | ((with_reducible refine gate_callee (f := 14) rfl ?_); refine goesL_ (some 62) rfl rfl Try.func14 (by kernel_rfl) rfl #[.int .i64 t196, .int .i64 a1] rfl (by (try simp only [List.map_toArray, List.map_cons, List.map_nil]); first | done | rfl | (simp only [List.length_drop, List.length_take]; rfl)) ?_; (with_reducible refine (fix_Add.calls t196 a1 t198 t199 _ A10.out).mono ?_); rintro e w' ⟨rfl, ⟨nd, rfl⟩⟩; refine ⟨_, rfl, ?_⟩))
                      go_ret
                      exact ⟨by first | rfl | (simp [errW_none, errW_some] <;> rfl) | (simp [*, errW_none, errW_some] <;> rfl), by repeat (first | (with_reducible first | exact HB.out | apply below_alloc | apply pw_below_drewN | apply below_drew1) | exact HB.out)⟩
                    · rw [if_neg c20] at H
                      exact absurd H (by simp)
                  · rw [if_neg c19] at H
                    exact absurd H (by simp)
                · rw [if_neg c18] at H
                  exact absurd H (by simp)
              · rw [if_neg c17] at H
                exact absurd H (by simp)
            · rw [if_neg c16] at H
              exact absurd H (by simp)
          · replace c15 := Bool.eq_false_iff.mpr c15
            subst c15
            have H1 : (none) = some r := by rw [if_neg (show ¬ (false = true) by decide)] at H; exact H
            clear H
            have H := H1
            clear H1
            exact absurd H (by simp)
        · rw [if_neg c14] at H
          exact absurd H (by simp)
      · rw [if_neg c13] at H
        have c13b0 : (t197 == 0) = false := beq_eq_false_iff_ne.mpr c13
        have c13b1 : (t197 != 0) = true := bne_iff_ne.mpr c13
        by_cases c24 : t196 = 0
        · rw [if_pos c24] at H
          have c24b0 : (t196 == 0) = true := beq_iff_eq.mpr c24
          have c24b1 : (t196 != 0) = false := bne_eq_false_iff_eq.mpr c24
          clear c24
          by_cases c25 : t185 = true
          · subst c25
            have H1 : (if t186 = t188 then (if t187 = t189 then (if t190 = t192 then (if t191 = t193 then (if t194 = a0 then (some true) else (none)) else (none)) else (none)) else (none)) else (none)) = some r := by rw [if_pos rfl] at H; exact H
            clear H
            have H := H1
            clear H1
            by_cases c26 : t186 = t188
            · rw [if_pos c26] at H
              have c26b0 : (t186 == t188) = true := beq_iff_eq.mpr c26
              have c26b1 : (t186 != t188) = false := bne_eq_false_iff_eq.mpr c26
              clear c26
              by_cases c27 : t187 = t189
              · rw [if_pos c27] at H
                have c27b0 : (t187 == t189) = true := beq_iff_eq.mpr c27
                have c27b1 : (t187 != t189) = false := bne_eq_false_iff_eq.mpr c27
                clear c27
                by_cases c28 : t190 = t192
                · rw [if_pos c28] at H
                  have c28b0 : (t190 == t192) = true := beq_iff_eq.mpr c28
                  have c28b1 : (t190 != t192) = false := bne_eq_false_iff_eq.mpr c28
                  clear c28
                  by_cases c29 : t191 = t193
                  · rw [if_pos c29] at H
                    have c29b0 : (t191 == t193) = true := beq_iff_eq.mpr c29
                    have c29b1 : (t191 != t193) = false := bne_eq_false_iff_eq.mpr c29
                    clear c29
                    by_cases c30 : t194 = a0
                    · rw [if_pos c30] at H
                      have c30b0 : (t194 == a0) = true := beq_iff_eq.mpr c30
                      have c30b1 : (t194 != a0) = false := bne_eq_false_iff_eq.mpr c30
                      clear c30
                      obtain rfl := Option.some.inj H
                      go_enter Try.func8, Try.ntmps8
                      go_wp2_with (first | ((with_reducible refine gate_callee (f := 10) rfl ?_); refine goesL_ (some 22) rfl rfl Try.func10 (by kernel_rfl) rfl #[] rfl (by (try simp only [List.map_toArray, List.map_cons, List.map_nil]); first | done | rfl | (simp only [List.length_drop, List.length_take]; rfl)) ?_; (with_reducible refine (fullerlaw01_awake.calls k  true _ A3.out).mono ?_); rintro e w31 ⟨rfl, hb⟩; refine ⟨_, rfl, ?_⟩; have n0_ := Aside0.mk (below_step (bq0_ HB.out) hb); clear HB; have HB := n0_; clear n0_; (try clear hb)) | ((with_reducible refine gate_callee (f := 14) rfl ?_); refine goesL_ (some 26) rfl rfl Try.func14 (by kernel_rfl) rfl #[.int .i64 a0, .int .i64 a1] rfl (by (try simp only [List.map_toArray, List.map_cons, List.map_nil]); first | done | rfl | (simp only [List.length_drop, List.length_take]; rfl)) ?_; (with_reducible refine (fix_Add.calls a0 a1 t186 t187 _ A4.out).mono ?_); rintro e w' ⟨rfl, ⟨nd, rfl⟩⟩; refine ⟨_, rfl, ?_⟩) | ((with_reducible refine gate_callee (f := 14) rfl ?_); refine goesL_ (some 32) rfl rfl Try.func14 (by kernel_rfl) rfl #[.int .i64 a1, .int .i64 a0] rfl (by (try simp only [List.map_toArray, List.map_cons, List.map_nil]); first | done | rfl | (simp only [List.length_drop, List.length_take]; rfl)) ?_; (with_reducible refine (fix_Add.calls a1 a0 t188 t189 _ A5.out).mono ?_); rintro e w' ⟨rfl, ⟨nd, rfl⟩⟩; refine ⟨_, rfl, ?_⟩) | ((with_reducible refine gate_callee (f := 12) rfl ?_); refine goesL_ (some 38) rfl rfl Try.func12 (by kernel_rfl) rfl #[.int .i64 a0, .int .i64 a1] rfl (by (try simp only [List.map_toArray, List.map_cons, List.map_nil]); first | done | rfl | (simp only [List.length_drop, List.length_take]; rfl)) ?_; (with_reducible refine (fix_Mul.calls a0 a1 t190 t191 _ A6.out).mono ?_); rintro e w32 ⟨rfl, hb⟩; refine ⟨_, rfl, ?_⟩; have n0_ := Aside0.mk (below_step (bq0_ HB.out) hb); clear HB; have HB := n0_; clear n0_; (try clear hb)) | ((with_reducible refine gate_callee (f := 12) rfl ?_); refine goesL_ (some 44) rfl rfl Try.func12 (by kernel_rfl) rfl #[.int .i64 a1, .int .i64 a0] rfl (by (try simp only [List.map_toArray, List.map_cons, List.map_nil]); first | done | rfl | (simp only [List.length_drop, List.length_take]; rfl)) ?_; (with_reducible refine (fix_Mul.calls a1 a0 t192 t193 _ A7.out).mono ?_); rintro e w33 ⟨rfl, hb⟩; refine ⟨_, rfl, ?_⟩; have n0_ := Aside0.mk (below_step (bq0_ HB.out) hb); clear HB; have HB := n0_; clear n0_; (try clear hb)) | ((with_reducible refine gate_callee (f := 17) rfl ?_); refine goesL_ (some 50) rfl rfl Try.func17 (by kernel_rfl) rfl #[.int .i64 t186, .int .i64 a1] rfl (by (try simp only [List.map_toArray, List.map_cons, List.map_nil]); first | done | rfl | (simp only [List.length_drop, List.length_take]; rfl)) ?_; (with_reducible refine (fix_Sub.calls t186 a1 t194 t195 _ A8.out).mono ?_); rintro e w' ⟨rfl, ⟨nd, rfl⟩⟩; refine ⟨_, rfl, ?_⟩) | ((with_reducible refine gate_callee (f := 17) rfl ?_); refine goesL_ (some 56) rfl rfl Try.func17 (by kernel_rfl) rfl #[.int .i64 a0, .int .i64 a1] rfl (by (try simp only [List.map_toArray, List.map_cons, List.map_nil]); first | done | rfl | (simp only [List.length_drop, List.length_take]; rfl)) ?_; (with_reducible refine (fix_Sub.calls a0 a1 t196 t197 _ A9.out).mono ?_); rintro e w' ⟨rfl, ⟨nd, rfl⟩⟩; refine ⟨_, rfl, ?_⟩) | ((with_reducible refine gate_callee (f := 14) rfl ?_); refine goesL_ (some 62) rfl rfl Try.func14 (by kernel_rfl) rfl #[.int .i64 t196, .int .i64 a1] rfl (by (try simp only [List.map_toArray, List.map_cons, List.map_nil]); first | done | rfl | (simp only [List.length_drop, List.length_take]; rfl)) ?_; (with_reducible refine (fix_Add.calls t196 a1 t198 t199 _ A10.out).mono ?_); rintro e w' ⟨rfl, ⟨nd, rfl⟩⟩; refine ⟨_, rfl, ?_⟩))
                      go_ret
                      exact ⟨by first | rfl | (simp [errW_none, errW_some] <;> rfl) | (simp [*, errW_none, errW_some] <;> rfl), by repeat (first | (with_reducible first | exact HB.out | apply below_alloc | apply pw_below_drewN | apply below_drew1) | exact HB.out)⟩
                    · rw [if_neg c30] at H
                      exact absurd H (by simp)
                  · rw [if_neg c29] at H
                    exact absurd H (by simp)
                · rw [if_neg c28] at H
                  exact absurd H (by simp)
              · rw [if_neg c27] at H
                exact absurd H (by simp)
            · rw [if_neg c26] at H
              exact absurd H (by simp)
          · replace c25 := Bool.eq_false_iff.mpr c25
            subst c25
            have H1 : (none) = some r := by rw [if_neg (show ¬ (false = true) by decide)] at H; exact H
            clear H
            have H := H1
            clear H1
            exact absurd H (by simp)
        · rw [if_neg c24] at H
          exact absurd H (by simp)
    · rw [if_neg c12] at H
      exact absurd H (by simp)
  · rw [if_neg c11] at H
    have c11b0 : (t187 == 0) = false := beq_eq_false_iff_ne.mpr c11
    have c11b1 : (t187 != 0) = true := bne_iff_ne.mpr c11
    by_cases c34 : t186 = 0
    · rw [if_pos c34] at H
      have c34b0 : (t186 == 0) = true := beq_iff_eq.mpr c34
      have c34b1 : (t186 != 0) = false := bne_eq_false_iff_eq.mpr c34
      clear c34
      by_cases c35 : t197 = 0
      · rw [if_pos c35] at H
        have c35b0 : (t197 == 0) = true := beq_iff_eq.mpr c35
        have c35b1 : (t197 != 0) = false := bne_eq_false_iff_eq.mpr c35
        clear c35
        by_cases c36 : t199 = 0
        · rw [if_pos c36] at H
          have c36b0 : (t199 == 0) = true := beq_iff_eq.mpr c36
          have c36b1 : (t199 != 0) = false := bne_eq_false_iff_eq.mpr c36
          clear c36
          by_cases c37 : t185 = true
          · subst c37
            have H1 : (if t186 = t188 then (if t187 = t189 then (if t190 = t192 then (if t191 = t193 then (some (t198 == a0)) else (none)) else (none)) else (none)) else (none)) = some r := by rw [if_pos rfl] at H; exact H
            clear H
            have H := H1
            clear H1
            by_cases c38 : t186 = t188
            · rw [if_pos c38] at H
              have c38b0 : (t186 == t188) = true := beq_iff_eq.mpr c38
              have c38b1 : (t186 != t188) = false := bne_eq_false_iff_eq.mpr c38
              clear c38
              by_cases c39 : t187 = t189
              · rw [if_pos c39] at H
                have c39b0 : (t187 == t189) = true := beq_iff_eq.mpr c39
                have c39b1 : (t187 != t189) = false := bne_eq_false_iff_eq.mpr c39
                clear c39
                by_cases c40 : t190 = t192
                · rw [if_pos c40] at H
                  have c40b0 : (t190 == t192) = true := beq_iff_eq.mpr c40
                  have c40b1 : (t190 != t192) = false := bne_eq_false_iff_eq.mpr c40
                  clear c40
                  by_cases c41 : t191 = t193
                  · rw [if_pos c41] at H
                    have c41b0 : (t191 == t193) = true := beq_iff_eq.mpr c41
                    have c41b1 : (t191 != t193) = false := bne_eq_false_iff_eq.mpr c41
                    clear c41
                    obtain rfl := Option.some.inj H
                    go_enter Try.func8, Try.ntmps8
                    go_wp2_with (first | ((with_reducible refine gate_callee (f := 10) rfl ?_); refine goesL_ (some 22) rfl rfl Try.func10 (by kernel_rfl) rfl #[] rfl (by (try simp only [List.map_toArray, List.map_cons, List.map_nil]); first | done | rfl | (simp only [List.length_drop, List.length_take]; rfl)) ?_; (with_reducible refine (fullerlaw01_awake.calls k  true _ A3.out).mono ?_); rintro e w42 ⟨rfl, hb⟩; refine ⟨_, rfl, ?_⟩; have n0_ := Aside0.mk (below_step (bq0_ HB.out) hb); clear HB; have HB := n0_; clear n0_; (try clear hb)) | ((with_reducible refine gate_callee (f := 14) rfl ?_); refine goesL_ (some 26) rfl rfl Try.func14 (by kernel_rfl) rfl #[.int .i64 a0, .int .i64 a1] rfl (by (try simp only [List.map_toArray, List.map_cons, List.map_nil]); first | done | rfl | (simp only [List.length_drop, List.length_take]; rfl)) ?_; (with_reducible refine (fix_Add.calls a0 a1 t186 t187 _ A4.out).mono ?_); rintro e w' ⟨rfl, ⟨nd, rfl⟩⟩; refine ⟨_, rfl, ?_⟩) | ((with_reducible refine gate_callee (f := 14) rfl ?_); refine goesL_ (some 32) rfl rfl Try.func14 (by kernel_rfl) rfl #[.int .i64 a1, .int .i64 a0] rfl (by (try simp only [List.map_toArray, List.map_cons, List.map_nil]); first | done | rfl | (simp only [List.length_drop, List.length_take]; rfl)) ?_; (with_reducible refine (fix_Add.calls a1 a0 t188 t189 _ A5.out).mono ?_); rintro e w' ⟨rfl, ⟨nd, rfl⟩⟩; refine ⟨_, rfl, ?_⟩) | ((with_reducible refine gate_callee (f := 12) rfl ?_); refine goesL_ (some 38) rfl rfl Try.func12 (by kernel_rfl) rfl #[.int .i64 a0, .int .i64 a1] rfl (by (try simp only [List.map_toArray, List.map_cons, List.map_nil]); first | done | rfl | (simp only [List.length_drop, List.length_take]; rfl)) ?_; (with_reducible refine (fix_Mul.calls a0 a1 t190 t191 _ A6.out).mono ?_); rintro e w43 ⟨rfl, hb⟩; refine ⟨_, rfl, ?_⟩; have n0_ := Aside0.mk (below_step (bq0_ HB.out) hb); clear HB; have HB := n0_; clear n0_; (try clear hb)) | ((with_reducible refine gate_callee (f := 12) rfl ?_); refine goesL_ (some 44) rfl rfl Try.func12 (by kernel_rfl) rfl #[.int .i64 a1, .int .i64 a0] rfl (by (try simp only [List.map_toArray, List.map_cons, List.map_nil]); first | done | rfl | (simp only [List.length_drop, List.length_take]; rfl)) ?_; (with_reducible refine (fix_Mul.calls a1 a0 t192 t193 _ A7.out).mono ?_); rintro e w44 ⟨rfl, hb⟩; refine ⟨_, rfl, ?_⟩; have n0_ := Aside0.mk (below_step (bq0_ HB.out) hb); clear HB; have HB := n0_; clear n0_; (try clear hb)) | ((with_reducible refine gate_callee (f := 17) rfl ?_); refine goesL_ (some 50) rfl rfl Try.func17 (by kernel_rfl) rfl #[.int .i64 t186, .int .i64 a1] rfl (by (try simp only [List.map_toArray, List.map_cons, List.map_nil]); first | done | rfl | (simp only [List.length_drop, List.length_take]; rfl)) ?_; (with_reducible refine (fix_Sub.calls t186 a1 t194 t195 _ A8.out).mono ?_); rintro e w' ⟨rfl, ⟨nd, rfl⟩⟩; refine ⟨_, rfl, ?_⟩) | ((with_reducible refine gate_callee (f := 17) rfl ?_); refine goesL_ (some 56) rfl rfl Try.func17 (by kernel_rfl) rfl #[.int .i64 a0, .int .i64 a1] rfl (by (try simp only [List.map_toArray, List.map_cons, List.map_nil]); first | done | rfl | (simp only [List.length_drop, List.length_take]; rfl)) ?_; (with_reducible refine (fix_Sub.calls a0 a1 t196 t197 _ A9.out).mono ?_); rintro e w' ⟨rfl, ⟨nd, rfl⟩⟩; refine ⟨_, rfl, ?_⟩) | ((with_reducible refine gate_callee (f := 14) rfl ?_); refine goesL_ (some 62) rfl rfl Try.func14 (by kernel_rfl) rfl #[.int .i64 t196, .int .i64 a1] rfl (by (try simp only [List.map_toArray, List.map_cons, List.map_nil]); first | done | rfl | (simp only [List.length_drop, List.length_take]; rfl)) ?_; (with_reducible refine (fix_Add.calls t196 a1 t198 t199 _ A10.out).mono ?_); rintro e w' ⟨rfl, ⟨nd, rfl⟩⟩; refine ⟨_, rfl, ?_⟩))
                    go_ret
                    exact ⟨by first | rfl | (simp [errW_none, errW_some] <;> rfl) | (simp [*, errW_none, errW_some] <;> rfl), by repeat (first | (with_reducible first | exact HB.out | apply below_alloc | apply pw_below_drewN | apply below_drew1) | exact HB.out)⟩
                  · rw [if_neg c41] at H
                    exact absurd H (by simp)
                · rw [if_neg c40] at H
                  exact absurd H (by simp)
              · rw [if_neg c39] at H
                exact absurd H (by simp)
            · rw [if_neg c38] at H
              exact absurd H (by simp)
          · replace c37 := Bool.eq_false_iff.mpr c37
            subst c37
            have H1 : (none) = some r := by rw [if_neg (show ¬ (false = true) by decide)] at H; exact H
            clear H
            have H := H1
            clear H1
            exact absurd H (by simp)
        · rw [if_neg c36] at H
          exact absurd H (by simp)
      · rw [if_neg c35] at H
        have c35b0 : (t197 == 0) = false := beq_eq_false_iff_ne.mpr c35
        have c35b1 : (t197 != 0) = true := bne_iff_ne.mpr c35
        by_cases c45 : t196 = 0
        · rw [if_pos c45] at H
          have c45b0 : (t196 == 0) = true := beq_iff_eq.mpr c45
          have c45b1 : (t196 != 0) = false := bne_eq_false_iff_eq.mpr c45
          clear c45
          by_cases c46 : t185 = true
          · subst c46
            have H1 : (if t186 = t188 then (if t187 = t189 then (if t190 = t192 then (if t191 = t193 then (some true) else (none)) else (none)) else (none)) else (none)) = some r := by rw [if_pos rfl] at H; exact H
            clear H
            have H := H1
            clear H1
            by_cases c47 : t186 = t188
            · rw [if_pos c47] at H
              have c47b0 : (t186 == t188) = true := beq_iff_eq.mpr c47
              have c47b1 : (t186 != t188) = false := bne_eq_false_iff_eq.mpr c47
              clear c47
              by_cases c48 : t187 = t189
              · rw [if_pos c48] at H
                have c48b0 : (t187 == t189) = true := beq_iff_eq.mpr c48
                have c48b1 : (t187 != t189) = false := bne_eq_false_iff_eq.mpr c48
                clear c48
                by_cases c49 : t190 = t192
                · rw [if_pos c49] at H
                  have c49b0 : (t190 == t192) = true := beq_iff_eq.mpr c49
                  have c49b1 : (t190 != t192) = false := bne_eq_false_iff_eq.mpr c49
                  clear c49
                  by_cases c50 : t191 = t193
                  · rw [if_pos c50] at H
                    have c50b0 : (t191 == t193) = true := beq_iff_eq.mpr c50
                    have c50b1 : (t191 != t193) = false := bne_eq_false_iff_eq.mpr c50
                    clear c50
                    obtain rfl := Option.some.inj H
                    go_enter Try.func8, Try.ntmps8
                    go_wp2_with (first | ((with_reducible refine gate_callee (f := 10) rfl ?_); refine goesL_ (some 22) rfl rfl Try.func10 (by kernel_rfl) rfl #[] rfl (by (try simp only [List.map_toArray, List.map_cons, List.map_nil]); first | done | rfl | (simp only [List.length_drop, List.length_take]; rfl)) ?_; (with_reducible refine (fullerlaw01_awake.calls k  true _ A3.out).mono ?_); rintro e w51 ⟨rfl, hb⟩; refine ⟨_, rfl, ?_⟩; have n0_ := Aside0.mk (below_step (bq0_ HB.out) hb); clear HB; have HB := n0_; clear n0_; (try clear hb)) | ((with_reducible refine gate_callee (f := 14) rfl ?_); refine goesL_ (some 26) rfl rfl Try.func14 (by kernel_rfl) rfl #[.int .i64 a0, .int .i64 a1] rfl (by (try simp only [List.map_toArray, List.map_cons, List.map_nil]); first | done | rfl | (simp only [List.length_drop, List.length_take]; rfl)) ?_; (with_reducible refine (fix_Add.calls a0 a1 t186 t187 _ A4.out).mono ?_); rintro e w' ⟨rfl, ⟨nd, rfl⟩⟩; refine ⟨_, rfl, ?_⟩) | ((with_reducible refine gate_callee (f := 14) rfl ?_); refine goesL_ (some 32) rfl rfl Try.func14 (by kernel_rfl) rfl #[.int .i64 a1, .int .i64 a0] rfl (by (try simp only [List.map_toArray, List.map_cons, List.map_nil]); first | done | rfl | (simp only [List.length_drop, List.length_take]; rfl)) ?_; (with_reducible refine (fix_Add.calls a1 a0 t188 t189 _ A5.out).mono ?_); rintro e w' ⟨rfl, ⟨nd, rfl⟩⟩; refine ⟨_, rfl, ?_⟩) | ((with_reducible refine gate_callee (f := 12) rfl ?_); refine goesL_ (some 38) rfl rfl Try.func12 (by kernel_rfl) rfl #[.int .i64 a0, .int .i64 a1] rfl (by (try simp only [List.map_toArray, List.map_cons, List.map_nil]); first | done | rfl | (simp only [List.length_drop, List.length_take]; rfl)) ?_; (with_reducible refine (fix_Mul.calls a0 a1 t190 t191 _ A6.out).mono ?_); rintro e w52 ⟨rfl, hb⟩; refine ⟨_, rfl, ?_⟩; have n0_ := Aside0.mk (below_step (bq0_ HB.out) hb); clear HB; have HB := n0_; clear n0_; (try clear hb)) | ((with_reducible refine gate_callee (f := 12) rfl ?_); refine goesL_ (some 44) rfl rfl Try.func12 (by kernel_rfl) rfl #[.int .i64 a1, .int .i64 a0] rfl (by (try simp only [List.map_toArray, List.map_cons, List.map_nil]); first | done | rfl | (simp only [List.length_drop, List.length_take]; rfl)) ?_; (with_reducible refine (fix_Mul.calls a1 a0 t192 t193 _ A7.out).mono ?_); rintro e w53 ⟨rfl, hb⟩; refine ⟨_, rfl, ?_⟩; have n0_ := Aside0.mk (below_step (bq0_ HB.out) hb); clear HB; have HB := n0_; clear n0_; (try clear hb)) | ((with_reducible refine gate_callee (f := 17) rfl ?_); refine goesL_ (some 50) rfl rfl Try.func17 (by kernel_rfl) rfl #[.int .i64 t186, .int .i64 a1] rfl (by (try simp only [List.map_toArray, List.map_cons, List.map_nil]); first | done | rfl | (simp only [List.length_drop, List.length_take]; rfl)) ?_; (with_reducible refine (fix_Sub.calls t186 a1 t194 t195 _ A8.out).mono ?_); rintro e w' ⟨rfl, ⟨nd, rfl⟩⟩; refine ⟨_, rfl, ?_⟩) | ((with_reducible refine gate_callee (f := 17) rfl ?_); refine goesL_ (some 56) rfl rfl Try.func17 (by kernel_rfl) rfl #[.int .i64 a0, .int .i64 a1] rfl (by (try simp only [List.map_toArray, List.map_cons, List.map_nil]); first | done | rfl | (simp only [List.length_drop, List.length_take]; rfl)) ?_; (with_reducible refine (fix_Sub.calls a0 a1 t196 t197 _ A9.out).mono ?_); rintro e w' ⟨rfl, ⟨nd, rfl⟩⟩; refine ⟨_, rfl, ?_⟩) | ((with_reducible refine gate_callee (f := 14) rfl ?_); refine goesL_ (some 62) rfl rfl Try.func14 (by kernel_rfl) rfl #[.int .i64 t196, .int .i64 a1] rfl (by (try simp only [List.map_toArray, List.map_cons, List.map_nil]); first | done | rfl | (simp only [List.length_drop, List.length_take]; rfl)) ?_; (with_reducible refine (fix_Add.calls t196 a1 t198 t199 _ A10.out).mono ?_); rintro e w' ⟨rfl, ⟨nd, rfl⟩⟩; refine ⟨_, rfl, ?_⟩))
                    go_ret
                    exact ⟨by first | rfl | (simp [errW_none, errW_some] <;> rfl) | (simp [*, errW_none, errW_some] <;> rfl), by repeat (first | (with_reducible first | exact HB.out | apply below_alloc | apply pw_below_drewN | apply below_drew1) | exact HB.out)⟩
                  · rw [if_neg c50] at H
                    exact absurd H (by simp)
                · rw [if_neg c49] at H
                  exact absurd H (by simp)
              · rw [if_neg c48] at H
                exact absurd H (by simp)
            · rw [if_neg c47] at H
              exact absurd H (by simp)
          · replace c46 := Bool.eq_false_iff.mpr c46
            subst c46
            have H1 : (none) = some r := by rw [if_neg (show ¬ (false = true) by decide)] at H; exact H
            clear H
            have H := H1
            clear H1
            exact absurd H (by simp)
        · rw [if_neg c45] at H
          exact absurd H (by simp)
    · rw [if_neg c34] at H
      exact absurd H (by simp)

/-- THE ONE PURE STATEMENT of fullerlaw01_FixBack: yours. -/
def fullerlaw01_FixBack.Pure : Prop := ∀ (a0 : Int) (a1 : Int), (Lit.int .i64 a0).wf = true → (Lit.int .i64 a1).wf = true → ∃ k, fullerlaw01_FixBack.f k a0 a1 = some true
theorem fullerlaw01_FixBack.walk (P : fullerlaw01_FixBack.Pure) (a0 : Int) (a1 : Int) (w : World) (w0 : (Lit.int .i64 a0).wf = true) (w1 : (Lit.int .i64 a1).wf = true) :
    Calls Try.prog 8 #[.int .i64 a0, .int .i64 a1] w fun e w' => e = .returned (.bool true) ∧ Below w.heap.size w w' := by
  obtain ⟨k, h⟩ := P a0 a1 w0 w1
  refine (fullerlaw01_FixBack.calls k a0 a1 true w h).mono ?_
  rintro e w' ⟨rfl, hd⟩
  exact ⟨rfl, hd⟩

end Go.Proofs.Ytkebkghhncelpaa.A
