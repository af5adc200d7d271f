/- Lean functions that answer as the Go functions do, and the proofs that they do; no conditions. Written by this session's own driver: a scratch copy of the kit's print with the session's additions (wip/xprint). -/
import Derived.Test.YtkebkghhncelpaaAx0
import Derived.Test.YtkebkghhncelpaaAx1
import Derived.Test.YtkebkghhncelpaaAx2
namespace Go.Proofs.Ytkebkghhncelpaa.A
open Go.RowKit Go.Proofs.YtkebkghhncelpaaW.PrintWords Go.Proofs.YtkebkghhncelpaaW.PrintLast Go.Proofs.YtkebkghhncelpaaW.PrintMore
attribute [local go_sem] max2_int min2_int max_two min_two max_three min_three max_four min_four   -- for this text's walks alone
set_option linter.unusedVariables false
set_option linter.unusedSimpArgs false

/-! ### fix_wide_signed: function 29 (given) -/
theorem add64_ (l : Int) (hl : 0 ≤ l) (w : World) : (callFunc 43 #[.int .u64 l, .int .u64 1, .int .u64 0]).run Try.prog w = .ok (.value (.tuple #[.int .u64 ((l + 1) % 18446744073709551616), .int .u64 ((l + 1) / 18446744073709551616)])) w := by
  rw [run_callFunc_extern Try.func43 (by kernel_rfl) (by kernel_rfl) (by kernel_rfl) (e := add64Entry) (by kernel_rfl), run_add64 l 1 0 hl (by omega) (by omega) (by omega)]
  simp only [Result.andThen, Int.add_zero]
theorem signed_up (g : Nat) (h l : Int) (hl : 0 ≤ l) (w : World) (c0 : w.cell? ⟨g, 0, none⟩ = some (.int .u64 h)) (c1 : w.cell? ⟨g, 1, none⟩ = some (.int .u64 l))
    (f0 : w.frozen? ⟨g, 0, none⟩ = false) (f1 : w.frozen? ⟨g, 1, none⟩ = false) :
    Calls Try.prog 42 #[.pointer (some ⟨g, 0, none⟩)] w fun e w' => e = .returned (.tuple #[]) ∧
      w' = (w.setCell ⟨g, 1, none⟩ (.int .u64 ((l + 1) % 18446744073709551616))).setCell ⟨g, 0, none⟩ (.int .u64 (IntKind.u64.wrap (h + (l + 1) / 18446744073709551616))) := by
  have ha : ∀ w', (callFunc 43 #[.int .u64 l, .int .u64 1, .int .u64 0]).run Try.prog w' = .ok (.value (.tuple #[.int .u64 ((l + 1) % 18446744073709551616), .int .u64 ((l + 1) / 18446744073709551616)])) w' := add64_ l hl
  go_enter Try.func42, Try.ntmps42
  go_wp2_with (simp only [ha])
  go_end0
  exact ⟨rfl, rfl⟩
/-- A number of two words with its sign, of which something is left, or not: floored. -/
def wsig (h l : Int) (rest below : Bool) : Int × Int :=
  if below = true then
    (if rest = true then
      (if 0 < IntKind.u64.wrap (h + (l + 1) / 18446744073709551616) ∨ 9223372036854775808 < (l + 1) % 18446744073709551616 then (0, 10) else (wrap64 (IntKind.u64.wrap (-((l + 1) % 18446744073709551616))), 0))
    else (if 0 < h ∨ 9223372036854775808 < l then (0, 10) else (wrap64 (IntKind.u64.wrap (-l)), 0)))
  else (if 0 < h ∨ 9223372036854775807 < l then (0, 10) else (wrap64 l, 0))
theorem wa_c0 (w : World) (x y : Value) (t : TypeId) : (w.alloc (.cells #[x, y] t)).cell? ⟨w.heap.size, 0, none⟩ = some x := by rw [World.cell?_alloc_at _ _ _ _ rfl]; rfl
theorem wa_c1 (w : World) (x y : Value) (t : TypeId) : (w.alloc (.cells #[x, y] t)).cell? ⟨w.heap.size, 1, none⟩ = some y := by rw [World.cell?_alloc_at _ _ _ _ rfl]; rfl
theorem wa_f (w : World) (x y : Value) (t : TypeId) (i : Nat) : (w.alloc (.cells #[x, y] t)).frozen? ⟨w.heap.size, i, none⟩ = false := by rw [World.frozen?_alloc_at _ _ _ _ rfl]
theorem fix_wide_signed.flat (h l : Int) (rest : Bool) (w : World) : Calls Try.prog 29 #[.agg #[.int .u64 h, .int .u64 l], .bool rest, .bool false] w fun e w' =>
    e = .returned (.tuple #[.int .i64 (wsig h l rest false).1, .int .i64 (wsig h l rest false).2]) ∧ Below w.heap.size w w' := by
  have k0 := wa_c0 w (.int .u64 h) (.int .u64 l) 38
  have k1 := wa_c1 w (.int .u64 h) (.int .u64 l) 38
  have j0 := wa_f w (.int .u64 h) (.int .u64 l) 38
  by_cases c : 0 < h
  · have d : decide (0 < h) = true := decide_eq_true c
    have e : wsig h l rest false = (0, 10) := by simp [wsig, c]
    rw [e]
    clear c e
    go_enter Try.func29, Try.ntmps29
    go_wp2
    go_ret2
    exact ⟨rfl, by repeat (first | exact Below.refl _ _ | apply below_alloc)⟩
  · have d : decide (0 < h) = false := decide_eq_false c
    by_cases c2 : 9223372036854775807 < l
    · have d2 : decide (9223372036854775807 < l) = true := decide_eq_true c2
      have e : wsig h l rest false = (0, 10) := by simp [wsig, c2]
      rw [e]
      clear c c2 e
      go_enter Try.func29, Try.ntmps29
      go_wp2
      go_ret2
      exact ⟨rfl, by repeat (first | exact Below.refl _ _ | apply below_alloc)⟩
    · have d2 : decide (9223372036854775807 < l) = false := decide_eq_false c2
      have e : wsig h l rest false = (wrap64 l, 0) := by simp [wsig, c, c2]
      rw [e]
      clear c c2 e
      go_enter Try.func29, Try.ntmps29
      go_wp2
      go_ret2
      exact ⟨rfl, by repeat (first | exact Below.refl _ _ | apply below_alloc)⟩
theorem fix_wide_signed.deep (h l : Int) (w : World) : Calls Try.prog 29 #[.agg #[.int .u64 h, .int .u64 l], .bool false, .bool true] w fun e w' =>
    e = .returned (.tuple #[.int .i64 (wsig h l false true).1, .int .i64 (wsig h l false true).2]) ∧ Below w.heap.size w w' := by
  have k0 := wa_c0 w (.int .u64 h) (.int .u64 l) 38
  have k1 := wa_c1 w (.int .u64 h) (.int .u64 l) 38
  have j0 := wa_f w (.int .u64 h) (.int .u64 l) 38
  by_cases c : 0 < h
  · have d : decide (0 < h) = true := decide_eq_true c
    have e : wsig h l false true = (0, 10) := by simp [wsig, c]
    rw [e]
    clear c e
    go_enter Try.func29, Try.ntmps29
    go_wp2
    go_ret2
    exact ⟨rfl, by repeat (first | exact Below.refl _ _ | apply below_alloc)⟩
  · have d : decide (0 < h) = false := decide_eq_false c
    by_cases c2 : 9223372036854775808 < l
    · have d2 : decide (9223372036854775808 < l) = true := decide_eq_true c2
      have e : wsig h l false true = (0, 10) := by simp [wsig, c2]
      rw [e]
      clear c c2 e
      go_enter Try.func29, Try.ntmps29
      go_wp2
      go_ret2
      exact ⟨rfl, by repeat (first | exact Below.refl _ _ | apply below_alloc)⟩
    · have d2 : decide (9223372036854775808 < l) = false := decide_eq_false c2
      have e : wsig h l false true = (wrap64 (IntKind.u64.wrap (-l)), 0) := by simp [wsig, c, c2]
      rw [e]
      clear c c2 e
      go_enter Try.func29, Try.ntmps29
      go_wp2
      go_ret2
      exact ⟨rfl, by repeat (first | exact Below.refl _ _ | apply below_alloc)⟩
theorem fix_wide_signed.more (h l : Int) (hl : 0 ≤ l) (w : World) : Calls Try.prog 29 #[.agg #[.int .u64 h, .int .u64 l], .bool true, .bool true] w fun e w' =>
    e = .returned (.tuple #[.int .i64 (wsig h l true true).1, .int .i64 (wsig h l true true).2]) ∧ Below w.heap.size w w' := by
  have k0 := wa_c0 w (.int .u64 h) (.int .u64 l) 38
  have k1 := wa_c1 w (.int .u64 h) (.int .u64 l) 38
  have j0 := wa_f w (.int .u64 h) (.int .u64 l) 38
  obtain ⟨m, hm⟩ : ∃ m, (l + 1) % 18446744073709551616 = m := ⟨_, rfl⟩
  obtain ⟨g, hg⟩ : ∃ g, IntKind.u64.wrap (h + (l + 1) / 18446744073709551616) = g := ⟨_, rfl⟩
  have up := signed_up w.heap.size h l hl (w.alloc (.cells #[.int .u64 h, .int .u64 l] 38)) k0 k1 (j0 0) (j0 1)
  rw [hm, hg] at up
  have UP := Aside0.mk up
  have LE := Aside0.mk (Nat.le_refl w.heap.size)
  clear up
  by_cases c : 0 < g
  · have d : decide (0 < g) = true := decide_eq_true c
    have e : wsig h l true true = (0, 10) := by simp [wsig, hg, c]
    rw [e]
    clear c e hm hg
    go_enter Try.func29, Try.ntmps29
    go_wp2_with (go_at_call 42; refine UP.out.mono ?_; rintro e w' ⟨rfl, rfl⟩)
    go_ret2
    exact ⟨rfl, by repeat (first | exact Below.refl _ _ | apply below_alloc | refine below_set ?_ LE.out)⟩
  · have d : decide (0 < g) = false := decide_eq_false c
    by_cases c2 : 9223372036854775808 < m
    · have d2 : decide (9223372036854775808 < m) = true := decide_eq_true c2
      have e : wsig h l true true = (0, 10) := by simp [wsig, hm, c2]
      rw [e]
      clear c c2 e hm hg
      go_enter Try.func29, Try.ntmps29
      go_wp2_with (go_at_call 42; refine UP.out.mono ?_; rintro e w' ⟨rfl, rfl⟩)
      go_ret2
      exact ⟨rfl, by repeat (first | exact Below.refl _ _ | apply below_alloc | refine below_set ?_ LE.out)⟩
    · have d2 : decide (9223372036854775808 < m) = false := decide_eq_false c2
      have e : wsig h l true true = (wrap64 (IntKind.u64.wrap (-m)), 0) := by simp [wsig, hm, hg, c, c2]
      rw [e]
      clear c c2 e hm hg
      go_enter Try.func29, Try.ntmps29
      go_wp2_with (go_at_call 42; refine UP.out.mono ?_; rintro e w' ⟨rfl, rfl⟩)
      go_ret2
      exact ⟨rfl, by repeat (first | exact Below.refl _ _ | apply below_alloc | refine below_set ?_ LE.out)⟩
theorem fix_wide_signed.calls (h l : Int) (hl : 0 ≤ l) (rest below : Bool) (w : World) : Calls Try.prog 29 #[.agg #[.int .u64 h, .int .u64 l], .bool rest, .bool below] w fun e w' =>
    e = .returned (.tuple #[.int .i64 (wsig h l rest below).1, .int .i64 (wsig h l rest below).2]) ∧ Below w.heap.size w w' := by
  cases below with
  | false => exact fix_wide_signed.flat h l rest w
  | true =>
    cases rest with
    | false => exact fix_wide_signed.deep h l w
    | true => exact fix_wide_signed.more h l hl w


/-! ### fix_apart: function 30 -/
def fix_apart.f (a0 : Int) (a1 : Int) : Option (Bool) := if a0 = 0 then (some false) else (if a1 = 0 then (some false) else (some ((decide (a0 < 0)) != (decide (a1 < 0)))))
set_option maxHeartbeats 8000000 in
set_option maxRecDepth 100000 in
theorem fix_apart.calls (a0 : Int) (a1 : Int) (r : Bool) (w : World) (h : fix_apart.f a0 a1 = some r) :
    Calls Try.prog 30 #[.int .i64 a0, .int .i64 a1] w fun e w' => e = .returned (.bool r) ∧ Drawn0 w w' := by
  have H : (if a0 = 0 then (some false) else (if a1 = 0 then (some false) else (some ((decide (a0 < 0)) != (decide (a1 < 0)))))) = some r := h
  clear h
  by_cases c3 : a0 = 0
  · rw [if_pos c3] at H
    have c3b0 : (a0 == 0) = true := beq_iff_eq.mpr c3
    have c3b1 : (a0 != 0) = false := bne_eq_false_iff_eq.mpr c3
    clear c3
    obtain rfl := Option.some.inj H
    go_enter Try.func30, Try.ntmps30
    go_wp2
    go_ret
    exact ⟨by first | rfl | (simp; done) | (simp [*]; done), by repeat (first | exact Drawn0.refl _ | apply Drawn0.step)⟩
  · rw [if_neg c3] at H
    have c3b0 : (a0 == 0) = false := beq_eq_false_iff_ne.mpr c3
    have c3b1 : (a0 != 0) = true := bne_iff_ne.mpr c3
    by_cases c4 : a1 = 0
    · rw [if_pos c4] at H
      have c4b0 : (a1 == 0) = true := beq_iff_eq.mpr c4
      have c4b1 : (a1 != 0) = false := bne_eq_false_iff_eq.mpr c4
      clear c4
      obtain rfl := Option.some.inj H
      go_enter Try.func30, Try.ntmps30
      go_wp2
      go_ret
      exact ⟨by first | rfl | (simp; done) | (simp [*]; done), by repeat (first | exact Drawn0.refl _ | apply Drawn0.step)⟩
    · rw [if_neg c4] at H
      have c4b0 : (a1 == 0) = false := beq_eq_false_iff_ne.mpr c4
      have c4b1 : (a1 != 0) = true := bne_iff_ne.mpr c4
      obtain rfl := Option.some.inj H
      go_enter Try.func30, Try.ntmps30
      go_wp2
      go_ret
      exact ⟨by first | rfl | (simp; done) | (simp [*]; done), by repeat (first | exact Drawn0.refl _ | apply Drawn0.step)⟩

/-! ### fix_Div: function 11 (given) -/
def fix_Div.f (k : Nat) (a0 a1 : Int) : Option (Int × Int) := if a1 = 0 then some (0, 11) else ((fix_size.f a0).bind fun x => (fix_size.f a1).bind fun y => if y = 0 then none else
  (bits_Div64.f k (Int.tmod (x / 4294967296) y) (IntKind.u64.wrap (x * 4294967296)) y).bind fun p => (fix_apart.f a0 a1).bind fun ap =>
  if 0 ≤ p.1 then some (wsig (IntKind.u64.wrap (Int.tdiv (x / 4294967296) y)) p.1 (p.2 != 0) ap) else none)
theorem fix_Div.mono : ∀ a0 a1 k, LeO (fix_Div.f k a0 a1) (fix_Div.f (k + 1) a0 a1) := by
  intro a0 a1 k
  unfold fix_Div.f
  repeat' first
      | (with_reducible exact bits_Div64.mono _ _ _ _)
      | (with_reducible exact LeO.refl _)
      | (with_reducible exact LeO.none _)
      | (with_reducible refine LeO.ite ?_ ?_)
      | (with_reducible refine LeO.bind ?_ (fun _ => ?_))
set_option maxHeartbeats 8000000 in
set_option maxRecDepth 100000 in
theorem fix_Div.calls (k : Nat) (a0 a1 r1 r2 : Int) (w : World) (h : fix_Div.f k a0 a1 = some (r1, r2)) :
    Calls Try.prog 11 #[.int .i64 a0, .int .i64 a1] w fun e w' => e = .returned (.tuple #[.int .i64 r1, .int .i64 r2]) ∧ Below w.heap.size w w' := by
  unfold fix_Div.f at h
  by_cases c : a1 = 0
  · rw [if_pos c] at h
    simp only [Option.some.injEq, Prod.mk.injEq] at h
    obtain ⟨rfl, rfl⟩ := h
    have d : (a1 == 0) = true := beq_iff_eq.mpr c
    clear c
    go_enter Try.func11, Try.ntmps11
    go_wp2
    go_ret2
    exact ⟨rfl, by repeat (first | exact Below.refl _ _ | apply pw_below_drewN | apply below_drew1)⟩
  · rw [if_neg c] at h
    have d : (a1 == 0) = false := beq_eq_false_iff_ne.mpr c
    clear c
    replace h := Option.bind_eq_some_iff.mp h
    obtain ⟨x, h1, h⟩ := h
    replace h := Option.bind_eq_some_iff.mp h
    obtain ⟨y, h2, h⟩ := h
    by_cases cy : y = 0
    · rw [if_pos cy] at h; cases h
    rw [if_neg cy] at h
    have dy : (y == 0) = false := beq_eq_false_iff_ne.mpr cy
    replace h := Option.bind_eq_some_iff.mp h
    obtain ⟨⟨p, q⟩, h3, h⟩ := h
    replace h := Option.bind_eq_some_iff.mp h
    obtain ⟨ap, h4, h⟩ := h
    by_cases cp : 0 ≤ p
    · rw [if_pos cp] at h
      have SG := Aside0.mk (fix_wide_signed.calls (IntKind.u64.wrap (Int.tdiv (x / 4294967296) y)) p cp (q != 0) ap)
      simp only [Option.some.injEq] at h
      rw [h] at SG
      have A1 := Aside0.mk h1
      have A2 := Aside0.mk h2
      have A3 := Aside0.mk h3
      have A4 := Aside0.mk h4
      clear h1 h2 h3 h4 h cp
      go_enter Try.func11, Try.ntmps11
      go_wp2_with (first
        | (go_at_call 27; (with_reducible refine (fix_size.calls a0 x _ A1.out).mono ?_); rintro e w' ⟨rfl, ⟨nd, rfl⟩⟩)
        | (go_at_call 27; (with_reducible refine (fix_size.calls a1 y _ A2.out).mono ?_); rintro e w' ⟨rfl, ⟨nd, rfl⟩⟩)
        | ((with_reducible refine gate_dst (N := 8) rfl ?_); refine box_event ?hg (N := 8) ?hd (cs := #[.int .u64 0, .int .u64 0]) (t := 38) ?hr ?_; (case hd => rfl); (case hg => rfl); (case hr => first | (go_simp; done) | (go_simp; rfl)); intro gb hg w5 hbox hb; have HB := Aside0.mk (below_step (by repeat (first | exact Below.refl _ _ | apply pw_below_drewN | apply below_drew1)) hb : Below w.heap.size w w5); have GE := Aside0.mk ((by rw [hg]; exact (below_size (by repeat (first | exact Below.refl _ _ | apply pw_below_drewN | apply below_drew1))) : w.heap.size ≤ gb)); have k0 : w5.cell? ⟨gb, 0, none⟩ = some (.int .u64 0) := (blk_cell hbox 0).trans rfl; have k1 : w5.cell? ⟨gb, 1, none⟩ = some (.int .u64 0) := (blk_cell hbox 1).trans rfl; have f0 := blk_frozen hbox 0; have f1 := blk_frozen hbox 1; clear hg hb hbox))
      go_region
      go_wp2_with (first
        | (go_at_call 28; (with_reducible refine (bits_Div64.calls k _ _ y p q _ A3.out).mono ?_); rintro e w' ⟨rfl, ⟨nd, rfl⟩⟩))
      go_region_with (first
        | (go_at_call 30; (with_reducible refine (fix_apart.calls a0 a1 ap _ A4.out).mono ?_); rintro e w' ⟨rfl, ⟨nd, rfl⟩⟩)
        | (go_at_call 29; refine (SG.out _).mono ?_; rintro e w' ⟨rfl, hb⟩; have HB2 := Aside0.mk hb; clear hb))
      all_goals
        go_wp2
        go_ret2
        exact ⟨rfl, below_step (by repeat (first | exact HB.out | apply pw_below_drewN | apply below_drew1 | refine below_set ?_ GE.out)) HB2.out⟩
    · rw [if_neg cp] at h; cases h


end Go.Proofs.Ytkebkghhncelpaa.A
