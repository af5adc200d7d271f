/- Lean functions that answer as the Go functions do, and the proofs that they do; no conditions. Written by this session's own driver: a scratch copy of the kit's print with the session's additions (wip/xprint). -/
import Derived.Test.YtkebkghhncelpaaAx0
import Derived.Test.YtkebkghhncelpaaAx1
import Derived.Test.YtkebkghhncelpaaAx3
namespace Go.Proofs.Ytkebkghhncelpaa.A
open Go.RowKit Go.Proofs.YtkebkghhncelpaaW.PrintWords Go.Proofs.YtkebkghhncelpaaW.PrintLast Go.Proofs.YtkebkghhncelpaaW.PrintMore
attribute [local go_sem] max2_int min2_int max_two min_two max_three min_three max_four min_four   -- for this text's walks alone
set_option linter.unusedVariables false
set_option linter.unusedSimpArgs false

/-! ### bits_Mul64: function 31 -/
def bits_Mul64.f (a0 : Int) (a1 : Int) : Option (Int × Int) := some (IntKind.u64.wrap ((IntKind.u64.wrap ((IntKind.u64.wrap ((a0 / 4294967296) * (a1 / 4294967296))) + ((IntKind.u64.wrap ((IntKind.u64.wrap ((a0 / 4294967296) * (Go.bits .and .u64 a1 4294967295))) + ((IntKind.u64.wrap ((Go.bits .and .u64 a0 4294967295) * (Go.bits .and .u64 a1 4294967295))) / 4294967296))) / 4294967296))) + ((IntKind.u64.wrap ((Go.bits .and .u64 (IntKind.u64.wrap ((IntKind.u64.wrap ((a0 / 4294967296) * (Go.bits .and .u64 a1 4294967295))) + ((IntKind.u64.wrap ((Go.bits .and .u64 a0 4294967295) * (Go.bits .and .u64 a1 4294967295))) / 4294967296))) 4294967295) + (IntKind.u64.wrap ((Go.bits .and .u64 a0 4294967295) * (a1 / 4294967296))))) / 4294967296)), IntKind.u64.wrap (a0 * a1))
set_option maxHeartbeats 8000000 in
set_option maxRecDepth 100000 in
theorem bits_Mul64.calls (a0 : Int) (a1 : Int) (r1 : Int) (r2 : Int) (w : World) (h : bits_Mul64.f a0 a1 = some (r1, r2)) :
    Calls Try.prog 31 #[.int .u64 a0, .int .u64 a1] w fun e w' => e = .returned (.tuple #[.int .u64 r1, .int .u64 r2]) ∧ Drawn0 w w' := by
  have H : (some (IntKind.u64.wrap ((IntKind.u64.wrap ((IntKind.u64.wrap ((a0 / 4294967296) * (a1 / 4294967296))) + ((IntKind.u64.wrap ((IntKind.u64.wrap ((a0 / 4294967296) * (Go.bits .and .u64 a1 4294967295))) + ((IntKind.u64.wrap ((Go.bits .and .u64 a0 4294967295) * (Go.bits .and .u64 a1 4294967295))) / 4294967296))) / 4294967296))) + ((IntKind.u64.wrap ((Go.bits .and .u64 (IntKind.u64.wrap ((IntKind.u64.wrap ((a0 / 4294967296) * (Go.bits .and .u64 a1 4294967295))) + ((IntKind.u64.wrap ((Go.bits .and .u64 a0 4294967295) * (Go.bits .and .u64 a1 4294967295))) / 4294967296))) 4294967295) + (IntKind.u64.wrap ((Go.bits .and .u64 a0 4294967295) * (a1 / 4294967296))))) / 4294967296)), IntKind.u64.wrap (a0 * a1))) = some (r1, r2) := h
  clear h
  simp only [Option.some.injEq, Prod.mk.injEq] at H
  obtain ⟨rfl, rfl⟩ := H
  go_enter Try.func31, Try.ntmps31
  go_wp2
  go_ret2
  exact ⟨by first | rfl | (simp; done) | (simp [*]; done), by repeat (first | exact Drawn0.refl _ | apply Drawn0.step)⟩

/-! ### fix_Mul: function 12 (given) -/
def fix_Mul.f (a0 a1 : Int) : Option (Int × Int) := (fix_size.f a0).bind fun x => (fix_size.f a1).bind fun y => (bits_Mul64.f x y).bind fun p => (fix_apart.f a0 a1).bind fun ap =>
  some (wsig (p.1 / 4294967296) (Go.bits .or .u64 (IntKind.u64.wrap (p.1 * 4294967296)) (p.2 / 4294967296)) (Go.bits .and .u64 p.2 4294967295 != 0) ap)
theorem or_nn (a b : Int) : 0 ≤ Go.bits .or .u64 a b := by
  unfold Go.bits
  simp only [IntKind.wrap_u64]
  omega
set_option maxHeartbeats 8000000 in
theorem fix_Mul.calls (a0 a1 r1 r2 : Int) (w : World) (h : fix_Mul.f a0 a1 = some (r1, r2)) :
    Calls Try.prog 12 #[.int .i64 a0, .int .i64 a1] w fun e w' => e = .returned (.tuple #[.int .i64 r1, .int .i64 r2]) ∧ Below w.heap.size w w' := by
  unfold fix_Mul.f at h
  obtain ⟨x, h1, h⟩ := Option.bind_eq_some_iff.mp h
  obtain ⟨y, h2, h⟩ := Option.bind_eq_some_iff.mp h
  obtain ⟨⟨p, q⟩, h3, h⟩ := Option.bind_eq_some_iff.mp h
  obtain ⟨ap, h4, h⟩ := Option.bind_eq_some_iff.mp h
  have SG := Aside0.mk (fix_wide_signed.calls (p / 4294967296) (Go.bits .or .u64 (IntKind.u64.wrap (p * 4294967296)) (q / 4294967296)) (or_nn _ _) (Go.bits .and .u64 q 4294967295 != 0) ap)
  simp only [Option.some.injEq] at h
  rw [h] at SG
  have A1 := Aside0.mk h1
  have A2 := Aside0.mk h2
  have A3 := Aside0.mk h3
  have A4 := Aside0.mk h4
  clear h1 h2 h3 h4 h
  go_enter Try.func12, Try.ntmps12
  go_wp2_with (first
    | (go_at_call 27; (with_reducible refine (fix_size.calls a0 x _ A1.out).mono ?_); rintro e w' ⟨rfl, ⟨nd, rfl⟩⟩)
    | (go_at_call 27; (with_reducible refine (fix_size.calls a1 y _ A2.out).mono ?_); rintro e w' ⟨rfl, ⟨nd, rfl⟩⟩)
    | (go_at_call 31; (with_reducible refine (bits_Mul64.calls x y p q _ A3.out).mono ?_); rintro e w' ⟨rfl, ⟨nd, rfl⟩⟩)
    | (go_at_call 30; (with_reducible refine (fix_apart.calls a0 a1 ap _ A4.out).mono ?_); rintro e w' ⟨rfl, ⟨nd, rfl⟩⟩)
    | (go_at_call 29; refine (SG.out _).mono ?_; rintro e w' ⟨rfl, hb⟩; have HB := Aside0.mk hb; clear hb))
  go_ret2
  exact ⟨rfl, below_step (by repeat (first | exact Below.refl _ _ | apply pw_below_drewN | apply below_drew1)) HB.out⟩


/-! ### bits_Sub64: function 32 (given) -/
def bits_Sub64.f (a0 a1 a2 : Int) : Option (Int × Int) := if 0 ≤ a0 ∧ 0 ≤ a1 ∧ 0 ≤ a2 ∧ a2 ≤ 1 ∧ a1 + a2 ≤ 18446744073709551616 then some ((a0 + 18446744073709551616 - a1 - a2) % 18446744073709551616, if a0 < a1 + a2 then 1 else 0) else none
/-- A call that the model answers itself, as an arm of go_wp2_with. -/
theorem goesX_ {P : Program} {ops : Array Oper} {Q : Exit → Act → World → Prop} {rest : List Oper} {oi : Oper} {a : Act} {w : World} (N : Option Tmp) (hd : oi.dst = N) (hg : oi.guard = none) {f : FuncId} {xs_ : Array Operand} {ts : Array TypeId} {v : Value} (args : Array Value)
    (hop : oi.op = .call { callee := .value (.func f), args := xs_, argTypes := ts }) (hargs : xs_.map a.eval = args) (he : (callFunc f args).run P w = .ok (.value v) w)
    (h : wpList P ops Q rest (a.put N v) w) : wpList P ops Q (oi :: rest) a w := by
  refine wpList_plain hg fun K hK => ?_
  have hrun : (execOp a.eval oi).run P w = .ok (.value v) w := by
    unfold execOp
    simp [hop, resolve, Deferred.ofValue, invoke, Act.eval, hargs, he]
  unfold Oper.wp
  rw [hrun]
  subst hd
  exact hK _ _ h
/-- What the model answers the call with. -/
noncomputable def sub64E : Array Value → Sem Value := (Extern.find Try.f32).getD (fun _ => pure undef)
theorem sub64_has : Extern.find Try.f32 = some sub64E := by kernel_rfl
theorem sub64_run (x y b : Nat) (hb : b ≤ 1) (w : World) : (sub64E #[.int .u64 x, .int .u64 y, .int .u64 b]).run Try.prog w =
    .ok (.tuple #[.int .u64 (((x + 18446744073709551616 - y - b) % 18446744073709551616 : Nat) : Int), .int .u64 ((if x < y + b then 1 else 0 : Nat) : Int)]) w := by
  have : b = 0 ∨ b = 1 := by omega
  rcases this with rfl | rfl
  all_goals
    clear hb
    show _ = _
    kernel_rfl
theorem bits_Sub64.runs (a0 a1 a2 r1 r2 : Int) (w : World) (h : bits_Sub64.f a0 a1 a2 = some (r1, r2)) : (callFunc 32 #[.int .u64 a0, .int .u64 a1, .int .u64 a2]).run Try.prog w = .ok (.value (.tuple #[.int .u64 r1, .int .u64 r2])) w := by
  unfold bits_Sub64.f at h
  by_cases c : 0 ≤ a0 ∧ 0 ≤ a1 ∧ 0 ≤ a2 ∧ a2 ≤ 1 ∧ a1 + a2 ≤ 18446744073709551616
  · rw [if_pos c] at h
    simp only [Option.some.injEq, Prod.mk.injEq] at h
    obtain ⟨h1, h2⟩ := h
    obtain ⟨c0, c1, c2, c3, c4⟩ := c
    obtain ⟨x, rfl⟩ := Int.eq_ofNat_of_zero_le c0
    obtain ⟨y, rfl⟩ := Int.eq_ofNat_of_zero_le c1
    obtain ⟨b, rfl⟩ := Int.eq_ofNat_of_zero_le c2
    rw [run_callFunc_extern Try.func32 (by kernel_rfl) (by kernel_rfl) (by kernel_rfl) sub64_has, sub64_run x y b (by omega)]
    simp only [Result.andThen]
    have e2 : ((if x < y + b then 1 else 0 : Nat) : Int) = r2 := by
      rw [← h2]
      by_cases q : x < y + b
      · rw [if_pos q, if_pos (by omega)]; rfl
      · rw [if_neg q, if_neg (by omega)]; rfl
    have e1 : (((x + 18446744073709551616 - y - b) % 18446744073709551616 : Nat) : Int) = r1 := by
      rw [← h1]
      omega
    rw [e1, e2]
  · rw [if_neg c] at h; cases h


/-! ### fix_Sqrt: function 13 -/
def fix_Sqrt.l0 : Nat → Int → Int → Int → Option (Int × Int)
  | 0, _, _, _ => none
  | k + 1, x0, x4, x5 => if (IntKind.u64.wrap (x5 - x4)) > 1 then ((bits_Mul64.f (IntKind.u64.wrap (Int.tdiv (IntKind.u64.wrap (x4 + x5)) 2)) (IntKind.u64.wrap (Int.tdiv (IntKind.u64.wrap (x4 + x5)) 2))).bind fun bt103 => ((bits_Sub64.f (IntKind.u64.wrap ((IntKind.u64.wrap (x0)) * 4294967296)) bt103.2 0).bind fun bt105 => ((bits_Sub64.f ((IntKind.u64.wrap (x0)) / 4294967296) bt103.1 bt105.2).bind fun bt107 => (if bt107.2 > 0 then (fix_Sqrt.l0 k x0 x4 (IntKind.u64.wrap (Int.tdiv (IntKind.u64.wrap (x4 + x5)) 2))) else (fix_Sqrt.l0 k x0 (IntKind.u64.wrap (Int.tdiv (IntKind.u64.wrap (x4 + x5)) 2)) x5))))) else (some (wrap64 (x4), 0))
def fix_Sqrt.f (k : Nat) (a0 : Int) : Option (Int × Int) := if a0 < 0 then (some (0, 12)) else (fix_Sqrt.l0 k a0 0 281474976710656)
theorem fix_Sqrt.mono_l : ∀ k, (∀ y0 y1 y2, LeO (fix_Sqrt.l0 k y0 y1 y2) (fix_Sqrt.l0 (k + 1) y0 y1 y2))
  | 0 => fun _ _ _ r h => by simp [fix_Sqrt.l0] at h
  | k + 1 => by
    have ih0 := fix_Sqrt.mono_l k
    · intro y0 y1 y2
      unfold fix_Sqrt.l0
      repeat' first
      | (with_reducible exact ih0 _ _ _)
      | (with_reducible exact LeO.refl _)
      | (with_reducible exact LeO.none _)
      | (with_reducible refine LeO.ite ?_ ?_)
      | (with_reducible refine LeO.bind ?_ (fun _ => ?_))
      | exact ih0 _ _ _
      | exact LeO.none _
      | refine LeO.ite ?_ ?_
      | refine LeO.bind ?_ (fun _ => ?_)
theorem fix_Sqrt.mono : ∀ a0 k, LeO (fix_Sqrt.f k a0) (fix_Sqrt.f (k + 1) a0) := by
  intro a0 k
  have ih0 := fix_Sqrt.mono_l k
  unfold fix_Sqrt.f
  repeat' first
      | (with_reducible exact ih0 _ _ _)
      | (with_reducible exact LeO.refl _)
      | (with_reducible exact LeO.none _)
      | (with_reducible refine LeO.ite ?_ ?_)
      | (with_reducible refine LeO.bind ?_ (fun _ => ?_))
      | exact ih0 _ _ _
      | exact LeO.none _
      | refine LeO.ite ?_ ?_
      | refine LeO.bind ?_ (fun _ => ?_)
set_option maxHeartbeats 8000000 in
set_option maxRecDepth 100000 in
theorem fix_Sqrt.calls (k : Nat) (a0 : Int) (r1 : Int) (r2 : Int) (w : World) (h : fix_Sqrt.f k a0 = some (r1, r2)) :
    Calls Try.prog 13 #[.int .i64 a0] w fun e w' => e = .returned (.tuple #[.int .i64 r1, .int .i64 r2]) ∧ Drawn0 w w' := by
  have H : (if a0 < 0 then (some (0, 12)) else (fix_Sqrt.l0 k a0 0 281474976710656)) = some (r1, r2) := h
  clear h
  by_cases c2 : a0 < 0
  · rw [if_pos c2] at H
    have c2b0 : decide (a0 < 0) = true := decide_eq_true c2
    clear c2
    simp only [Option.some.injEq, Prod.mk.injEq] at H
    obtain ⟨rfl, rfl⟩ := H
    go_enter Try.func13, Try.ntmps13
    go_wp2
    go_ret2
    exact ⟨by first | rfl | (simp; done) | (simp [*]; done), by repeat (first | exact Drawn0.refl _ | apply Drawn0.step)⟩
  · rw [if_neg c2] at H
    have c2b0 : decide (a0 < 0) = false := decide_eq_false c2
    clear c2
    have H' := Aside0.mk H
    clear H
    go_enter Try.func13, Try.ntmps13
    go_wp2
    go_loopg [4, 5] k (fun kq v4 v5 w' => ∃ (x4_1 : Int) (x5_1 : Int), v4 = .int .u64 x4_1 ∧ v5 = .int .u64 x5_1 ∧ Aside0 (fix_Sqrt.l0 kq a0 x4_1 x5_1 = some (r1, r2)) ∧ Aside0 (kq ≤ k) ∧ Drawn0 w w')
    case atStart => exact ⟨(0), (281474976710656), (by first | rfl | (simp; done) | (simp [*]; done)), (by first | rfl | (simp; done) | (simp [*]; done)), H', ⟨Nat.le_refl _⟩, by repeat (first | exact Drawn0.refl _ | apply Drawn0.step)⟩
    case round =>
      clear H'
      try clear c1
      try clear c2
      try clear c2b0
      try clear p2
      obtain ⟨x4_1, x5_1, rfl, rfl, HA, HK1, ⟨m1, rfl⟩⟩ := hrel
      cases gk with
      | zero => exact absurd HA.out (by simp [fix_Sqrt.l0])
      | succ k1 =>
        have H := HA.out
        clear HA
        simp only [fix_Sqrt.l0] at H
        by_cases c3 : (IntKind.u64.wrap (x5_1 - x4_1)) > 1
        · rw [if_pos c3] at H
          have c3b0 : decide (1 < (IntKind.u64.wrap (x5_1 - x4_1))) = true := decide_eq_true c3
          clear c3
          replace H := Option.bind_eq_some_iff.mp H
          obtain ⟨⟨t103, t104⟩, A40, H⟩ := H
          replace H : ((bits_Sub64.f (IntKind.u64.wrap ((IntKind.u64.wrap (a0)) * 4294967296)) t104 0).bind fun bt105 => ((bits_Sub64.f ((IntKind.u64.wrap (a0)) / 4294967296) t103 bt105.2).bind fun bt107 => (if bt107.2 > 0 then (fix_Sqrt.l0 k1 a0 x4_1 (IntKind.u64.wrap (Int.tdiv (IntKind.u64.wrap (x4_1 + x5_1)) 2))) else (fix_Sqrt.l0 k1 a0 (IntKind.u64.wrap (Int.tdiv (IntKind.u64.wrap (x4_1 + x5_1)) 2)) x5_1)))) = some (r1, r2) := H
          have A4 := Aside0.mk A40
          clear A40
          replace H := Option.bind_eq_some_iff.mp H
          obtain ⟨⟨t105, t106⟩, A50, H⟩ := H
          replace H : ((bits_Sub64.f ((IntKind.u64.wrap (a0)) / 4294967296) t103 t106).bind fun bt107 => (if bt107.2 > 0 then (fix_Sqrt.l0 k1 a0 x4_1 (IntKind.u64.wrap (Int.tdiv (IntKind.u64.wrap (x4_1 + x5_1)) 2))) else (fix_Sqrt.l0 k1 a0 (IntKind.u64.wrap (Int.tdiv (IntKind.u64.wrap (x4_1 + x5_1)) 2)) x5_1))) = some (r1, r2) := H
          have A5 := Aside0.mk A50
          clear A50
          replace H := Option.bind_eq_some_iff.mp H
          obtain ⟨⟨t107, t108⟩, A60, H⟩ := H
          replace H : (if t108 > 0 then (fix_Sqrt.l0 k1 a0 x4_1 (IntKind.u64.wrap (Int.tdiv (IntKind.u64.wrap (x4_1 + x5_1)) 2))) else (fix_Sqrt.l0 k1 a0 (IntKind.u64.wrap (Int.tdiv (IntKind.u64.wrap (x4_1 + x5_1)) 2)) x5_1)) = some (r1, r2) := H
          have A6 := Aside0.mk A60
          clear A60
          by_cases c7 : t108 > 0
          · rw [if_pos c7] at H
            have c7b0 : decide (0 < t108) = true := decide_eq_true c7
            clear c7
            have H' := Aside0.mk H
            clear H
            go_wp2_with (first | ((with_reducible refine gate_callee (f := 31) rfl ?_); refine goesL_ (some 24) rfl rfl Try.func31 (by kernel_rfl) rfl #[.int .u64 (IntKind.u64.wrap (Int.tdiv (IntKind.u64.wrap (x4_1 + x5_1)) 2)), .int .u64 (IntKind.u64.wrap (Int.tdiv (IntKind.u64.wrap (x4_1 + x5_1)) 2))] rfl (by (try simp only [List.map_toArray, List.map_cons, List.map_nil]); first | done | rfl | (simp only [List.length_drop, List.length_take]; rfl)) ?_; (with_reducible refine (bits_Mul64.calls (IntKind.u64.wrap (Int.tdiv (IntKind.u64.wrap (x4_1 + x5_1)) 2)) (IntKind.u64.wrap (Int.tdiv (IntKind.u64.wrap (x4_1 + x5_1)) 2)) t103 t104 _ A4.out).mono ?_); rintro e w' ⟨rfl, ⟨nd, rfl⟩⟩; refine ⟨_, rfl, ?_⟩) | ((with_reducible refine gate_callee (f := 32) rfl ?_); refine goesX_ (some 32) rfl rfl #[.int .u64 (IntKind.u64.wrap ((IntKind.u64.wrap (a0)) * 4294967296)), .int .u64 t104, .int .u64 0] rfl (by (try simp only [List.map_toArray, List.map_cons, List.map_nil]); first | done | rfl | (simp only [List.length_drop, List.length_take]; rfl)) (bits_Sub64.runs (IntKind.u64.wrap ((IntKind.u64.wrap (a0)) * 4294967296)) t104 0 t105 t106 _ A5.out) ?_) | ((with_reducible refine gate_callee (f := 32) rfl ?_); refine goesX_ (some 41) rfl rfl #[.int .u64 ((IntKind.u64.wrap (a0)) / 4294967296), .int .u64 t103, .int .u64 t106] rfl (by (try simp only [List.map_toArray, List.map_cons, List.map_nil]); first | done | rfl | (simp only [List.length_drop, List.length_take]; rfl)) (bits_Sub64.runs ((IntKind.u64.wrap (a0)) / 4294967296) t103 t106 t107 t108 _ A6.out) ?_))
            go_roundg k1
            case measure => have := HK1.out; omega
            case rel => exact ⟨(x4_1), (IntKind.u64.wrap (Int.tdiv (IntKind.u64.wrap (x4_1 + x5_1)) 2)), (by first | rfl | (simp; done) | (simp [*]; done)), (by first | rfl | (simp; done) | (simp [*]; done)), H', ⟨by have := HK1.out; omega⟩, by repeat (first | exact Drawn0.refl _ | apply Drawn0.step)⟩
          · rw [if_neg c7] at H
            have c7b0 : decide (0 < t108) = false := decide_eq_false c7
            clear c7
            have H' := Aside0.mk H
            clear H
            go_wp2_with (first | ((with_reducible refine gate_callee (f := 31) rfl ?_); refine goesL_ (some 24) rfl rfl Try.func31 (by kernel_rfl) rfl #[.int .u64 (IntKind.u64.wrap (Int.tdiv (IntKind.u64.wrap (x4_1 + x5_1)) 2)), .int .u64 (IntKind.u64.wrap (Int.tdiv (IntKind.u64.wrap (x4_1 + x5_1)) 2))] rfl (by (try simp only [List.map_toArray, List.map_cons, List.map_nil]); first | done | rfl | (simp only [List.length_drop, List.length_take]; rfl)) ?_; (with_reducible refine (bits_Mul64.calls (IntKind.u64.wrap (Int.tdiv (IntKind.u64.wrap (x4_1 + x5_1)) 2)) (IntKind.u64.wrap (Int.tdiv (IntKind.u64.wrap (x4_1 + x5_1)) 2)) t103 t104 _ A4.out).mono ?_); rintro e w' ⟨rfl, ⟨nd, rfl⟩⟩; refine ⟨_, rfl, ?_⟩) | ((with_reducible refine gate_callee (f := 32) rfl ?_); refine goesX_ (some 32) rfl rfl #[.int .u64 (IntKind.u64.wrap ((IntKind.u64.wrap (a0)) * 4294967296)), .int .u64 t104, .int .u64 0] rfl (by (try simp only [List.map_toArray, List.map_cons, List.map_nil]); first | done | rfl | (simp only [List.length_drop, List.length_take]; rfl)) (bits_Sub64.runs (IntKind.u64.wrap ((IntKind.u64.wrap (a0)) * 4294967296)) t104 0 t105 t106 _ A5.out) ?_) | ((with_reducible refine gate_callee (f := 32) rfl ?_); refine goesX_ (some 41) rfl rfl #[.int .u64 ((IntKind.u64.wrap (a0)) / 4294967296), .int .u64 t103, .int .u64 t106] rfl (by (try simp only [List.map_toArray, List.map_cons, List.map_nil]); first | done | rfl | (simp only [List.length_drop, List.length_take]; rfl)) (bits_Sub64.runs ((IntKind.u64.wrap (a0)) / 4294967296) t103 t106 t107 t108 _ A6.out) ?_))
            go_roundg k1
            case measure => have := HK1.out; omega
            case rel => exact ⟨(IntKind.u64.wrap (Int.tdiv (IntKind.u64.wrap (x4_1 + x5_1)) 2)), (x5_1), (by first | rfl | (simp; done) | (simp [*]; done)), (by first | rfl | (simp; done) | (simp [*]; done)), H', ⟨by have := HK1.out; omega⟩, by repeat (first | exact Drawn0.refl _ | apply Drawn0.step)⟩
        · rw [if_neg c3] at H
          have c3b0 : decide (1 < (IntKind.u64.wrap (x5_1 - x4_1))) = false := decide_eq_false c3
          clear c3
          simp only [Option.some.injEq, Prod.mk.injEq] at H
          obtain ⟨rfl, rfl⟩ := H
          go_wp2
          go_ret2
          exact ⟨by first | rfl | (simp; done) | (simp [*]; done), by repeat (first | exact Drawn0.refl _ | apply Drawn0.step)⟩

/-! ### fix_told: function 33 -/
def fix_told.f (a0 : Int) (a1 : Bool) : Option (Int × Int) := if a1 = true then (some (a0, 0)) else (some (0, 10))
set_option maxHeartbeats 8000000 in
set_option maxRecDepth 100000 in
theorem fix_told.calls (a0 : Int) (a1 : Bool) (r1 : Int) (r2 : Int) (w : World) (h : fix_told.f a0 a1 = some (r1, r2)) :
    Calls Try.prog 33 #[.int .i64 a0, .bool a1] w fun e w' => e = .returned (.tuple #[.int .i64 r1, .int .i64 r2]) ∧ Drawn0 w w' := by
  have H : (if a1 = true then (some (a0, 0)) else (some (0, 10))) = some (r1, r2) := h
  clear h
  by_cases c3 : a1 = true
  · subst c3
    have H1 : (some (a0, 0)) = some (r1, r2) := by rw [if_pos rfl] at H; exact H
    clear H
    have H := H1
    clear H1
    simp only [Option.some.injEq, Prod.mk.injEq] at H
    obtain ⟨rfl, rfl⟩ := H
    go_enter Try.func33, Try.ntmps33
    go_wp2
    go_ret2
    exact ⟨by first | rfl | (simp; done) | (simp [*]; done), by repeat (first | exact Drawn0.refl _ | apply Drawn0.step)⟩
  · replace c3 := Bool.eq_false_iff.mpr c3
    subst c3
    have H1 : (some (0, 10)) = some (r1, r2) := by rw [if_neg (show ¬ (false = true) by decide)] at H; exact H
    clear H
    have H := H1
    clear H1
    simp only [Option.some.injEq, Prod.mk.injEq] at H
    obtain ⟨rfl, rfl⟩ := H
    go_enter Try.func33, Try.ntmps33
    go_wp2
    go_ret2
    exact ⟨by first | rfl | (simp; done) | (simp [*]; done), by repeat (first | exact Drawn0.refl _ | apply Drawn0.step)⟩

end Go.Proofs.Ytkebkghhncelpaa.A
