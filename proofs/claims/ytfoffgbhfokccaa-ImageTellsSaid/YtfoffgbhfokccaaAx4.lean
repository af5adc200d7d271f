/- Lean functions that answer as the Go functions do, and the proofs that they do; no conditions. Written by this session's own driver: a scratch copy of the kit's print with the session's additions (wip/xprint). -/
import Derived.Test.YtfoffgbhfokccaaAx0
import Derived.Test.YtfoffgbhfokccaaAx1
import Derived.Test.YtfoffgbhfokccaaAx2
namespace Go.Proofs.Ytfoffgbhfokccaa.A
open Go.RowKit Go.Proofs.YtfoffgbhfokccaaW.PrintWords Go.Proofs.YtfoffgbhfokccaaW.PrintLast Go.Proofs.YtfoffgbhfokccaaW.PrintMore
attribute [local go_sem] max2_int min2_int max_two min_two max_three min_three max_four min_four   -- for this text's walks alone
set_option linter.unusedVariables false
set_option linter.unusedSimpArgs false

/-! ### pack_take: function 45 (given) -/
/-- The number that bytes are, the highest first, behind a number. -/
def tkl : Int → List Int → Int
  | n, [] => n
  | n, c :: r => tkl (Go.bits .or .i64 (wrap64 (n * 256)) (wrap64 c)) r
theorem pack_take.no (A0 : Option Addr) (c0 : Nat) (l0 : List Int) (a1 : Int) (hl : (l0.length : Int) * 8 ≤ 9223372036854775807) (h : okSize a1 = false ∨ (l0.length : Int) < a1) (w : World) :
    Calls Try.prog 45 #[.slice A0 l0.length c0, .int .i64 a1] w fun e w' => e = .panicked [wrongE] ∧ w = w' := by
  by_cases hk : okSize a1 = true
  · have h2 : (l0.length : Int) < a1 := by
      rcases h with h | h
      · rw [hk] at h; cases h
      · exact h
    have e1 : wrap64 (8 * (l0.length : Int)) = 8 * (l0.length : Int) := by unfold wrap64; omega
    have e2 : IntKind.i64.wrap (8 * (l0.length : Int)) = 8 * (l0.length : Int) := (i64_w _).trans e1
    have e3 : decide (a1 ≤ (l0.length : Int)) = false := decide_eq_false (by omega)
    clear h h2 hl e1
    have HK := Aside0.mk hk
    clear hk
    go_enter Try.func45, Try.ntmps45
    go_wp2_with (first | (go_at_call 39; (with_reducible refine (pack_bits.ok a1 HK.out _).mono ?_); rintro e w' ⟨rfl, rfl⟩) | (go_at_call 48; (with_reducible refine (pack_must.no _).mono ?_); rintro e w' ⟨rfl, rfl⟩))
    exact ⟨rfl, rfl, rfl⟩
  · have hk' : okSize a1 = false := by simpa using hk
    clear h hk hl
    have HK := Aside0.mk hk'
    clear hk'
    go_enter Try.func45, Try.ntmps45
    go_wp2_with (first | (go_at_call 39; (with_reducible refine (pack_bits.no a1 HK.out _).mono ?_); rintro e w' ⟨rfl, rfl⟩))
    exact ⟨rfl, rfl, rfl⟩
set_option maxHeartbeats 8000000 in
set_option maxRecDepth 100000 in
theorem pack_take.ok (A0 : Option Addr) (c0 : Nat) (l0 : List Int) (a1 : Int) (hl : (l0.length : Int) * 8 ≤ 9223372036854775807) (hk : okSize a1 = true) (h2 : a1 ≤ (l0.length : Int)) (w : World)
    (hr0 : Kd.C (Kd.int .u8) w A0 l0.length l0) (hc0 : l0.length ≤ c0) :
    Calls Try.prog 45 #[.slice A0 l0.length c0, .int .i64 a1] w fun e w' => ∃ (A1 : Option Addr) (c1 : Nat), e = .returned (.tuple #[.int .i64 (tkl 0 (l0.take a1.toNat)), .slice A1 (l0.drop a1.toNat).length c1]) ∧
      (l0.drop a1.toNat).length ≤ c1 ∧ (∀ W', Kd.C (Kd.int .u8) W' A0 l0.length l0 → Kd.C (Kd.int .u8) W' A1 (l0.drop a1.toNat).length (l0.drop a1.toNat)) ∧ Drawn0 w w' := by
  have h3 : a1 = 1 ∨ a1 = 2 ∨ a1 = 8 := by simpa [okSize, or_assoc] using hk
  have h0 : 0 ≤ a1 := by omega
  have e1 : wrap64 (8 * (l0.length : Int)) = 8 * (l0.length : Int) := by unfold wrap64; omega
  have e2 : IntKind.i64.wrap (8 * (l0.length : Int)) = 8 * (l0.length : Int) := (i64_w _).trans e1
  have e3 : decide (a1 ≤ (l0.length : Int)) = true := decide_eq_true (by omega)
  obtain ⟨y, hy⟩ : ∃ y : List Int, y = l0.take a1.toNat := ⟨_, rfl⟩
  obtain ⟨i08, hi08, _, hsz8, _⟩ := info_parts info5
  have hcut8 := cut_to (P := Try.prog) 22 5 .i64 Try.underlying22 hi08 A0 l0.length c0 a1 h0 h2 hc0
  have hr8 := Kd.C_take (m := a1.toNat) hr0 (by omega)
  have hy8 : y.length = a1.toNat := (by rw [hy, List.length_take]; omega)
  rw [← hy] at hr8
  rw [← hy8] at hcut8
  have HR := Aside0.mk hr8
  have HR0 := Aside0.mk hr0
  have HC0 := Aside0.mk hc0
  have HK := Aside0.mk hk
  have HY := Aside0.mk hy
  have HY8 := Aside0.mk hy8
  have HL := Aside0.mk h2
  have H0 := Aside0.mk h0
  have HH := Aside0.mk hl
  clear hr8 hr0 hc0 hk hy hy8 h3 hl e1 hi08 hsz8 h2 h0
  go_enter Try.func45, Try.ntmps45
  go_wp2_with (first | (go_at_call 39; (with_reducible refine (pack_bits.ok a1 HK.out _).mono ?_); rintro e w' ⟨rfl, rfl⟩) | (go_at_call 48; (with_reducible refine (pack_must.ok _).mono ?_); rintro e w' ⟨rfl, rfl⟩))
  go_loopg [6, 20] (y.length + 1) (fun kq v6 v20 w' => ∃ (x6 : Int) (i : Nat), v6 = .int .i64 x6 ∧ v20 = .int .i64 (i : Int) ∧ Aside0 (i ≤ y.length ∧ y.length - i < kq ∧ tkl x6 (y.drop i) = tkl 0 y) ∧ Aside0 (Kd.C (Kd.int .u8) w' A0 y.length y) ∧ Drawn0 w w')
  case atStart => exact ⟨0, 0, rfl, rfl, ⟨by omega, by omega, by simp⟩, HR, Drawn0.refl _⟩
  case round =>
    obtain ⟨x6, i, rfl, rfl, HI, HR1, ⟨m1, rfl⟩⟩ := hrel
    by_cases hlt : i < y.length
    · have p0 : (0 : Int) ≤ (i : Int) := by omega
      have q0 : (i : Int) < (y.length : Int) := by omega
      obtain ⟨ad, he, hx⟩ := Kd.at_int HR1.out (i : Int) p0 q0
      cases he
      rw [Int.toNat_natCast] at hx
      have hb0 : decide ((i : Int) < (y.length : Int)) = true := decide_eq_true q0
      have hb1 : decide (i < y.length) = true := decide_eq_true hlt
      have p1 := eq_true p0
      have q1 := eq_true q0
      have HLT := Aside0.mk hlt
      have hHI := HI
      clear hlt p0 q0
      go_wp2
      have hlt := HLT.out
      obtain ⟨hi1, hi2, hi3⟩ := HI.out
      go_roundg (gk - 1)
      case measure => omega
      case rel =>
        have hd : y.drop i = y[i] :: y.drop (i + 1) := List.drop_eq_getElem_cons hlt
        have hrd : rd y (i : Int) = y[i] := by unfold rd; simp [List.getD_eq_getElem?_getD, hlt]
        have hlen : y.length ≤ 8 := by have h3 : a1 = 1 ∨ a1 = 2 ∨ a1 = 8 := by simpa [okSize, or_assoc] using HK.out
                                       have := HY8.out; omega
        have g1 : i + 1 ≤ y.length := by omega
        have g2 : y.length - (i + 1) < gk - 1 := by omega
        have hw : wrap64 ((i : Int) + 1) = ((i + 1 : Nat) : Int) := by unfold wrap64; omega
        exact ⟨_, i + 1, rfl, by rw [hw], ⟨g1, g2, by rw [← hi3, hd, hrd]; rfl⟩, HR1, ⟨m1, rfl⟩⟩
    · have hi := HI.out
      obtain ⟨hi1, hi2, hi3⟩ := hi
      have hie : i = y.length := by omega
      subst hie
      have hb0 : decide ((y.length : Int) < (y.length : Int)) = false := decide_eq_false (by omega)
      have hb1 : decide (y.length < y.length) = false := decide_eq_false (by omega)
      have hres : tkl 0 (l0.take a1.toNat) = x6 := by rw [← HY.out, ← hi3]; simp [tkl]
      obtain ⟨i014, hi014, _, hsz14, _⟩ := info_parts info5
      have hcut14 := cut_from (P := Try.prog) 22 5 .i64 Try.underlying22 hi014 1 hsz14 A0 l0.length c0 a1 H0.out HL.out
      have hr14 := fun W' (hW : Kd.C (Kd.int .u8) W' A0 l0.length l0) => Kd.C_drop (m := a1.toNat) hW (by have := HL.out; omega) HC0.out
      obtain ⟨A14, hA14⟩ : ∃ A1, A1 = (if c0 = a1.toNat then A0 else (A0 : Option Addr).map (·.add (a1.toNat * 1))) := ⟨_, rfl⟩
      obtain ⟨c14, hc14⟩ : ∃ c1, c1 = c0 - a1.toNat := ⟨_, rfl⟩
      obtain ⟨z, hz⟩ : ∃ z : List Int, z = l0.drop a1.toNat := ⟨_, rfl⟩
      have hy14 : z.length = l0.length - a1.toNat := by rw [hz, List.length_drop]
      have hcz : z.length ≤ c14 := by rw [hy14, hc14]; have := HC0.out; omega
      rw [← hz] at hr14
      rw [← hy14, ← hA14, ← hc14] at hcut14
      have HR14 := Aside0.mk (show ∀ W', Kd.C (Kd.int .u8) W' A0 l0.length l0 → Kd.C (Kd.int .u8) W' A14 z.length z by rw [hA14]; exact hr14)
      have HZ := Aside0.mk hz
      have HCZ := Aside0.mk hcz
      have HRES := Aside0.mk hres
      clear hi1 hi2 hi3 hr14 hA14 hc14 hz hy14 hcz hres hi014 hsz14
      go_wp2
      repeat (go_quiet (fail); try go_wp2)
      go_ret2
      rw [← HZ.out]
      exact ⟨A14, c14, by rw [HRES.out]; rfl, HCZ.out, HR14.out, by first | exact ⟨_, World.drewN_drewN _ _ _⟩ | repeat (first | exact Drawn0.refl _ | apply Drawn0.step)⟩


/-! ### pack_Take: function 30 (given) -/
/-- What is taken of bytes. -/
def pkTake (l0 : List Int) (a1 : Int) : Int × List Int × Int := if okSize a1 = true ∧ a1 ≤ (l0.length : Int) then (tkl 0 (l0.take a1.toNat), l0.drop a1.toNat, 0) else (0, [], 40)
def pack_Take.f (l0 : List Int) (a1 : Int) : Option (Int × List Int × Int) := if l0.length < 140737488355328 then some (pkTake l0 a1) else none
section
variable (w : World) (x y z : Value) (t u v : TypeId) (nd : Nat)
theorem t3_a : ((((w.alloc (.cells #[x] t)).alloc (.cells #[y] u)).alloc (.cells #[z] v)).drewN nd).cell? ⟨w.heap.size, 0, none⟩ = some x := by
  rw [World.cell?_drewN, World.cell?_alloc_past _ _ _ (by simp; omega), World.cell?_alloc_past _ _ _ (by simp), World.cell?_alloc_at _ _ _ _ rfl]; rfl
theorem t3_b : ((((w.alloc (.cells #[x] t)).alloc (.cells #[y] u)).alloc (.cells #[z] v)).drewN nd).cell? ⟨w.heap.size + 1, 0, none⟩ = some y := by
  rw [World.cell?_drewN, World.cell?_alloc_past _ _ _ (by simp), World.cell?_alloc_at _ _ _ _ (by simp)]; rfl
theorem t3_c : ((((w.alloc (.cells #[x] t)).alloc (.cells #[y] u)).alloc (.cells #[z] v)).drewN nd).cell? ⟨w.heap.size + 1 + 1, 0, none⟩ = some z := by
  rw [World.cell?_drewN, World.cell?_alloc_at _ _ _ _ (by simp)]; rfl
theorem s3_a : ((((w.alloc (.cells #[x] t)).alloc (.cells #[y] u)).alloc (.cells #[z] v)).drewN nd).frozen? ⟨w.heap.size, 0, none⟩ = false := by
  rw [World.frozen?_drewN, World.frozen?_alloc_past _ _ _ (by simp; omega), World.frozen?_alloc_past _ _ _ (by simp), World.frozen?_alloc_at _ _ _ _ rfl]
theorem s3_b : ((((w.alloc (.cells #[x] t)).alloc (.cells #[y] u)).alloc (.cells #[z] v)).drewN nd).frozen? ⟨w.heap.size + 1, 0, none⟩ = false := by
  rw [World.frozen?_drewN, World.frozen?_alloc_past _ _ _ (by simp), World.frozen?_alloc_at _ _ _ _ (by simp)]
theorem s3_c : ((((w.alloc (.cells #[x] t)).alloc (.cells #[y] u)).alloc (.cells #[z] v)).drewN nd).frozen? ⟨w.heap.size + 1 + 1, 0, none⟩ = false := by
  rw [World.frozen?_drewN, World.frozen?_alloc_at _ _ _ _ (by simp)]
end
theorem take_nil_ok (p q : Addr) (x y : Value) (w : World) (hpq : p ≠ q) (hc : w.cell? p = some x) (hf : w.frozen? p = false) (hd : w.cell? q = some y) (hg : w.frozen? q = false) :
    Calls Try.prog 46 #[.pointer (some p), .pointer (some q)] w fun e w' => e = .returned (.tuple #[]) ∧ (w.setCell p (.int .i64 0)).setCell q (.slice none 0 0) = w' := by
  have hd2 : (w.setCell p (.int .i64 0)).cell? q = some y := by rw [World.cell?_setCell_other _ _ _ _ hpq]; exact hd
  have hg2 : (w.setCell p (.int .i64 0)).frozen? q = false := by rw [World.frozen?_setCell]; exact hg
  go_enter Try.func46, Try.ntmps46
  go_wp2
  go_end0
  exact ⟨rfl, rfl⟩
theorem res_three (tm : Array Value) (W : World) (a b c : Addr) (x y z : Value) (t4 : tm[4]?.getD undef = .pointer (some a)) (t5 : tm[5]?.getD undef = .pointer (some b)) (t6 : tm[6]?.getD undef = .pointer (some c))
    (k4 : W.cell? a = some x) (k5 : W.cell? b = some y) (k6 : W.cell? c = some z) :
    (results Try.f30 tm).run Try.prog W = .ok (.tuple #[x, y, z]) W := by
  simp [results, Try.results30, go_sem, t4, t5, t6, k4, k5, k6]
theorem take_tail_no (w w1 : World) (x y : Value) (tm : Array Value) (c4 : w1.cell? ⟨w.heap.size, 0, none⟩ = some x) (f4 : w1.frozen? ⟨w.heap.size, 0, none⟩ = false)
    (c5 : w1.cell? ⟨w.heap.size + 1, 0, none⟩ = some y) (f5 : w1.frozen? ⟨w.heap.size + 1, 0, none⟩ = false)
    (c6 : w1.cell? ⟨w.heap.size + 1 + 1, 0, none⟩ = some (.int .i64 0)) (f6 : w1.frozen? ⟨w.heap.size + 1 + 1, 0, none⟩ = false) (z1 : w.heap.size + 3 ≤ w1.heap.size) (hb : Below w.heap.size w w1)
    (t4 : tm[4]?.getD undef = .pointer (some ⟨w.heap.size, 0, none⟩)) (t5 : tm[5]?.getD undef = .pointer (some ⟨w.heap.size + 1, 0, none⟩)) (t6 : tm[6]?.getD undef = .pointer (some ⟨w.heap.size + 1 + 1, 0, none⟩)) :
    Leaves Try.prog Try.f30 tm (fun e w' => ∃ v1_ : Value, e = .returned (.tuple #[.int .i64 0, v1_, .int .i64 40]) ∧ Kd.R (Kd.int .u8) 5 w' w.heap.size (fun _ => True) v1_ [] ∧ Below w.heap.size w w')
      [{ target := Target.fn (Fn.func 37) #[], args := #[.pointer (some ⟨w.heap.size + 1 + 1, 0, none⟩), .func (Fn.func 46) #[] #[.pointer (some ⟨w.heap.size, 0, none⟩), .pointer (some ⟨w.heap.size + 1, 0, none⟩)]] }] (.panicking [wrongE]) w1 := by
  have h1 : w.heap.size < w1.heap.size := by omega
  have h2 : w.heap.size + 1 < w1.heap.size := by omega
  have h3 : w.heap.size + 1 + 1 < w1.heap.size := by omega
  refine leaves_cons (f := 37) (args := #[.pointer (some ⟨w.heap.size + 1 + 1, 0, none⟩), .func (Fn.func 46) #[] #[.pointer (some ⟨w.heap.size, 0, none⟩), .pointer (some ⟨w.heap.size + 1, 0, none⟩)]]) (by simp) (by simp [go_sem]) ?_
  refine (pack_told.wrong ⟨w.heap.size + 1 + 1, 0, none⟩ 46 #[.pointer (some ⟨w.heap.size, 0, none⟩), .pointer (some ⟨w.heap.size + 1, 0, none⟩)] (.int .i64 0) [] w1 (fun w2 => ((w1.alloc (.cells #[] 65)).setCell ⟨w.heap.size, 0, none⟩ (.int .i64 0)).setCell ⟨w.heap.size + 1, 0, none⟩ (.slice none 0 0) = w2) (fun W => by simp [go_sem]) ?_).mono ?_
  · refine (take_nil_ok ⟨w.heap.size, 0, none⟩ ⟨w.heap.size + 1, 0, none⟩ x y _ (by simp) (by rw [World.cell?_alloc_lt _ _ _ h1]; exact c4) (by rw [World.frozen?_alloc_old _ _ _ (Nat.ne_of_lt h1)]; exact f4)
      (by rw [World.cell?_alloc_lt _ _ _ h2]; exact c5) (by rw [World.frozen?_alloc_old _ _ _ (Nat.ne_of_lt h2)]; exact f5)).mono ?_
    rintro e w' ⟨rfl, rfl⟩
    refine ⟨rfl, rfl, ?_, ?_⟩
    · rw [World.cell?_setCell_other _ _ _ _ (by simp), World.cell?_setCell_other _ _ _ _ (by simp), World.cell?_alloc_lt _ _ _ h3]; exact c6
    · rw [World.frozen?_setCell, World.frozen?_setCell, World.frozen?_alloc_old _ _ _ (Nat.ne_of_lt h3)]; exact f6
  · rintro e u' w' ⟨rfl, rfl, w2, rfl, rfl⟩
    have hs : settle (.panicking [wrongR]) = .returning := rfl
    simp only [hs]
    refine ⟨.tuple #[.int .i64 0, .slice none 0 0, .int .i64 40], ?_, .slice none 0 0, rfl, Kd.R_nil _ _ _ _ _, ?_⟩
    · refine res_three _ _ _ _ _ _ _ _ t4 t5 t6 ?_ ?_ ?_
      · rw [World.cell?_setCell_other _ _ _ _ (by simp), World.cell?_setCell_other _ _ _ _ (by simp)]
        exact World.cell?_setCell_same _ _ _ (u := x) (by rw [World.cell?_alloc_lt _ _ _ h1]; exact c4)
      · rw [World.cell?_setCell_other _ _ _ _ (by simp)]
        exact World.cell?_setCell_same _ _ _ (u := y) (by rw [World.cell?_setCell_other _ _ _ _ (by simp), World.cell?_alloc_lt _ _ _ h2]; exact c5)
      · exact World.cell?_setCell_same _ _ _ (u := .int .i64 0) (by rw [World.cell?_setCell_other _ _ _ _ (by simp), World.cell?_setCell_other _ _ _ _ (by simp), World.cell?_alloc_lt _ _ _ h3]; exact c6)
    · exact (((hb.alloc (by omega) _).setCell (p := ⟨w.heap.size, 0, none⟩) (Nat.le_refl _) _).setCell (p := ⟨w.heap.size + 1, 0, none⟩) (by simp) _).setCell (p := ⟨w.heap.size + 1 + 1, 0, none⟩) (by simp; omega) _
set_option maxHeartbeats 8000000 in
set_option maxRecDepth 100000 in
theorem pack_Take.calls (A0 : Option Addr) (c0 : Nat) (l0 : List Int) (a1 : Int) (r1 : Int) (r2 : List Int) (r3 : Int) (w : World) (hr0 : Kd.C (Kd.int .u8) w A0 l0.length l0) (hc0 : l0.length ≤ c0) (h : pack_Take.f l0 a1 = some (r1, r2, r3)) :
    Calls Try.prog 30 #[.slice A0 l0.length c0, .int .i64 a1] w fun e w' => ∃ v1_ : Value, e = .returned (.tuple #[.int .i64 r1, v1_, .int .i64 r3]) ∧ Kd.R (Kd.int .u8) 5 w' w.heap.size (fun _ => True) v1_ r2 ∧ Below w.heap.size w w' := by
  unfold pack_Take.f at h
  by_cases hl : l0.length < 140737488355328
  · rw [if_pos hl] at h
    have h := Option.some.inj h
    have HL := Aside0.mk hl
    have HR0 := Aside0.mk hr0
    have HC0 := Aside0.mk hc0
    have HL8 := Aside0.mk (show (l0.length : Int) * 8 ≤ 9223372036854775807 by omega)
    clear hr0 hc0 hl
    have hmf : ∀ (fn : Fn) (first cap : Array Value) (W : World), (Instr.makeFunc fn first cap).run Try.prog W = .ok (.func fn first cap) W := fun _ _ _ _ => rfl
    by_cases hm : okSize a1 = true ∧ a1 ≤ (l0.length : Int)
    · have hz : (r1, r2, r3) = (tkl 0 (l0.take a1.toNat), l0.drop a1.toNat, 0) := by rw [← h]; simp [pkTake, hm]
      simp only [Prod.mk.injEq] at hz
      obtain ⟨rfl, rfl, rfl⟩ := hz
      have HK := Aside0.mk hm.1
      have HM := Aside0.mk hm.2
      clear hm h
      obtain ⟨z, hz⟩ : ∃ z : List Int, z = l0.drop a1.toNat := ⟨_, rfl⟩
      have HZ := Aside0.mk hz
      have HZL := Aside0.mk (show z.length ≤ l0.length by rw [hz, List.length_drop]; omega)
      have hcf : slices_Clone_byte_byte.f z = some z := by unfold slices_Clone_byte_byte.f; rw [if_pos (by have := HL.out; have := HZL.out; omega)]
      have HCF := Aside0.mk hcf
      rw [← hz]
      clear hz hcf
      go_enter_defers Try.func30, Try.ntmps30
      go_wp2_with (first | (go_at_call 45; (with_reducible refine (pack_take.ok A0 c0 l0 a1 HL8.out HK.out HM.out _ ?s1 HC0.out).mono ?_); (case s1 => repeat (first | exact HR0.out | (with_reducible refine Kd.C_alloc ?_ _))); rintro e w1 ⟨A1, c1, rfl, hc1, hr1, ⟨nd, rfl⟩⟩; rw [← HZ.out] at hr1 hc1; rw [← HZ.out]; have HC1 := Aside0.mk hc1; have HR1 := Aside0.mk hr1; clear hc1 hr1))
      generalize hW5 : World.setCell _ _ _ = W5
      have hb5 : Below w.heap.size w W5 := by
        rw [← hW5]
        exact ((pw_below_drewN (below_alloc (below_alloc (below_alloc (Below.refl _ _) _) _) _) _).setCell (p := ⟨w.heap.size, 0, none⟩) (Nat.le_refl _) _).setCell (p := ⟨w.heap.size + 1, 0, none⟩) (by simp) _
      have z5 : w.heap.size + 3 ≤ W5.heap.size := by rw [← hW5]; simp
      have c4 : W5.cell? ⟨w.heap.size, 0, none⟩ = some (.int .i64 (tkl 0 (l0.take a1.toNat))) := by
        rw [← hW5, World.cell?_setCell_other _ _ _ _ (by simp)]
        exact World.cell?_setCell_same _ _ _ (t3_a _ _ _ _ _ _ _ _)
      have c5 : W5.cell? ⟨w.heap.size + 1, 0, none⟩ = some (.slice A1 z.length c1) := by
        rw [← hW5]
        exact World.cell?_setCell_same _ _ _ (by rw [World.cell?_setCell_other _ _ _ _ (by simp)]; exact t3_b _ _ _ _ _ _ _ _)
      have c6 : W5.cell? ⟨w.heap.size + 1 + 1, 0, none⟩ = some (.int .i64 0) := by
        rw [← hW5, World.cell?_setCell_other _ _ _ _ (by simp), World.cell?_setCell_other _ _ _ _ (by simp)]; exact t3_c _ _ _ _ _ _ _ _
      have f4 : W5.frozen? ⟨w.heap.size, 0, none⟩ = false := by rw [← hW5, World.frozen?_setCell, World.frozen?_setCell]; exact s3_a _ _ _ _ _ _ _ _
      have f5 : W5.frozen? ⟨w.heap.size + 1, 0, none⟩ = false := by rw [← hW5, World.frozen?_setCell, World.frozen?_setCell]; exact s3_b _ _ _ _ _ _ _ _
      have f6 : W5.frozen? ⟨w.heap.size + 1 + 1, 0, none⟩ = false := by rw [← hW5, World.frozen?_setCell, World.frozen?_setCell]; exact s3_c _ _ _ _ _ _ _ _
      have HR5 := Aside0.mk (HR1.out W5 (Kd.C_below HR0.out hb5))
      have HB5 := Aside0.mk hb5
      have HZ5 := Aside0.mk z5
      clear hW5 hb5 z5
      go_region_with (first | (go_at_call 35; (with_reducible refine (slices_Clone_byte_byte.calls A1 c1 z z _ ?s1 HC1.out HCF.out).mono ?_); (case s1 => repeat (first | exact HR5.out | (with_reducible refine Kd.C_drewN ?_ _) | (with_reducible refine Kd.C_drew ?_))); rintro e w3 ⟨v3, rfl, hR3, hb3⟩; obtain ⟨Ao3, co3, eo3⟩ := Kd.R_slice hR3; subst eo3; have z3 := HZ5.out; have d4 := (hb3.cell (p := ⟨w.heap.size, 0, none⟩) (show w.heap.size < _ by simp; omega)).trans (show _ = _ from c4); have g4 := (hb3.frozen (p := ⟨w.heap.size, 0, none⟩) (show w.heap.size < _ by simp; omega)).trans (show _ = _ from f4); have d5 := (hb3.cell (p := ⟨w.heap.size + 1, 0, none⟩) (show w.heap.size + 1 < _ by simp; omega)).trans (show _ = _ from c5); have g5 := (hb3.frozen (p := ⟨w.heap.size + 1, 0, none⟩) (show w.heap.size + 1 < _ by simp; omega)).trans (show _ = _ from f5); have d6 := (hb3.cell (p := ⟨w.heap.size + 1 + 1, 0, none⟩) (show w.heap.size + 1 + 1 < _ by simp; omega)).trans (show _ = _ from c6); have g6 := (hb3.frozen (p := ⟨w.heap.size + 1 + 1, 0, none⟩) (show w.heap.size + 1 + 1 < _ by simp; omega)).trans (show _ = _ from f6); have HR3 := Aside0.mk hR3; have HB3 := Aside0.mk hb3; clear hR3 hb3 z3))
      all_goals
        go_wp2
        simp only [bodyPostD]
        refine leaves_cons (f := 37) (args := #[.pointer (some ⟨w.heap.size + 1 + 1, 0, none⟩), .func (Fn.func 46) #[] #[.pointer (some ⟨w.heap.size, 0, none⟩), .pointer (some ⟨w.heap.size + 1, 0, none⟩)]]) (by simp) (by simp [go_sem]) ?_
        refine (pack_told.idle _ _ _).mono ?_
        rintro e u' w' ⟨rfl, rfl, rfl⟩
        have hs : settle .returning = .returning := rfl
        simp only [hs]
        refine ⟨.tuple #[.int .i64 (tkl 0 (l0.take a1.toNat)), .slice Ao3 z.length co3, .int .i64 0], ?_, _, rfl, ?_, ?_⟩
        · refine res_three _ _ _ _ _ _ _ _ rfl rfl rfl ?_ ?_ ?_
          · rw [World.cell?_setCell_other _ _ _ _ (by simp), World.cell?_setCell_other _ _ _ _ (by simp)]
            exact World.cell?_setCell_same _ _ _ d4
          · rw [World.cell?_setCell_other _ _ _ _ (by simp)]
            exact World.cell?_setCell_same _ _ _ (by rw [World.cell?_setCell_other _ _ _ _ (by simp)]; exact d5)
          · exact World.cell?_setCell_same _ _ _ (by rw [World.cell?_setCell_other _ _ _ _ (by simp), World.cell?_setCell_other _ _ _ _ (by simp)]; exact d6)
        · have r1 := Kd.R_bound HR3.out
          have hz5 := HZ5.out
          exact Kd.R_mono (Kd.R_lower (Kd.R_far (Kd.R_far (Kd.R_far r1 (fun k hk => by have := hk.2.1; simp at this; simp; omega) _) (fun k hk => by have := hk.2.1; simp at this; simp; omega) _) (fun k hk => by have := hk.2.1; simp at this; simp; omega) _) (by simp; omega)) (fun _ _ => trivial)
        · have hz5 := HZ5.out
          have hb : Below w.heap.size w w3 := HB5.out.trans ((Below.drew (Below.refl _ _)).trans (HB3.out.mono (by simp; omega)))
          exact ((hb.setCell (p := ⟨w.heap.size, 0, none⟩) (Nat.le_refl _) _).setCell (p := ⟨w.heap.size + 1, 0, none⟩) (by simp) _).setCell (p := ⟨w.heap.size + 1 + 1, 0, none⟩) (by simp; omega) _
    · have hm' : okSize a1 = false ∨ (l0.length : Int) < a1 := by
        by_cases hk : okSize a1 = true
        · right; by_cases h2 : a1 ≤ (l0.length : Int)
          · exact absurd ⟨hk, h2⟩ hm
          · omega
        · left; simpa using hk
      have hz : (r1, r2, r3) = (0, [], 40) := by rw [← h]; unfold pkTake; rw [if_neg hm]
      simp only [Prod.mk.injEq] at hz
      obtain ⟨rfl, rfl, rfl⟩ := hz
      have HM := Aside0.mk hm'
      clear hm hm' h
      go_enter_defers Try.func30, Try.ntmps30
      go_wp2_with (first | (go_at_call 45; (with_reducible refine (pack_take.no A0 c0 l0 a1 HL8.out HM.out _).mono ?_); rintro e w1 ⟨rfl, rfl⟩))
      simp only [bodyPostD]
      exact take_tail_no w _ _ _ _ (t3_a _ _ _ _ _ _ _ 0) (s3_a _ _ _ _ _ _ _ 0) (t3_b _ _ _ _ _ _ _ 0) (s3_b _ _ _ _ _ _ _ 0) (t3_c _ _ _ _ _ _ _ 0) (s3_c _ _ _ _ _ _ _ 0) (by simp) (below_alloc (below_alloc (below_alloc (Below.refl _ _) _) _) _) rfl rfl rfl
  · rw [if_neg hl] at h; cases h


/-! ### pack_TakeList: function 27 (given) -/
/-- So many numbers, taken one behind the other. -/
def pkTL (size : Int) : Nat → List Int → Option (List Int × List Int)
  | 0, rest => some ([], rest)
  | m + 1, rest => if size ≤ (rest.length : Int) then (pkTL size m (rest.drop size.toNat)).map (fun p => (tkl 0 (rest.take size.toNat) :: p.1, p.2)) else none
/-- What a list is taken as. -/
def pkTakeList (l0 : List Int) (a1 : Int) : List Int × List Int × Int :=
  if okSize a1 = true ∧ 1 ≤ l0.length then (match pkTL a1 (tkl 0 (l0.take 1)).toNat (l0.drop 1) with | some p => (p.1, p.2, 0) | none => ([], [], 40)) else ([], [], 40)
def pack_TakeList.f (l0 : List Int) (a1 : Int) : Option (List Int × List Int × Int) := if l0.length < 140737488355328 then (if 0 ≤ tkl 0 (l0.take 1) ∧ tkl 0 (l0.take 1) ≤ 255 then some (pkTakeList l0 a1) else none) else none
theorem tl_nil_ok (p q : Addr) (x y : Value) (w : World) (hpq : p ≠ q) (hc : w.cell? p = some x) (hf : w.frozen? p = false) (hd : w.cell? q = some y) (hg : w.frozen? q = false) :
    Calls Try.prog 44 #[.pointer (some p), .pointer (some q)] w fun e w' => e = .returned (.tuple #[]) ∧ (w.setCell p (.slice none 0 0)).setCell q (.slice none 0 0) = w' := by
  have hd2 : (w.setCell p (.slice none 0 0)).cell? q = some y := by rw [World.cell?_setCell_other _ _ _ _ hpq]; exact hd
  have hg2 : (w.setCell p (.slice none 0 0)).frozen? q = false := by rw [World.frozen?_setCell]; exact hg
  go_enter Try.func44, Try.ntmps44
  go_wp2
  go_end0
  exact ⟨rfl, rfl⟩
theorem tl_three (tm : Array Value) (W : World) (a b c : Addr) (x y z : Value) (t4 : tm[4]?.getD undef = .pointer (some a)) (t5 : tm[5]?.getD undef = .pointer (some b)) (t6 : tm[6]?.getD undef = .pointer (some c))
    (k4 : W.cell? a = some x) (k5 : W.cell? b = some y) (k6 : W.cell? c = some z) :
    (results Try.f27 tm).run Try.prog W = .ok (.tuple #[x, y, z]) W := by
  simp [results, Try.results27, go_sem, t4, t5, t6, k4, k5, k6]
theorem tl_tail_no (w w1 : World) (x y : Value) (tm : Array Value) (c4 : w1.cell? ⟨w.heap.size, 0, none⟩ = some x) (f4 : w1.frozen? ⟨w.heap.size, 0, none⟩ = false)
    (c5 : w1.cell? ⟨w.heap.size + 1, 0, none⟩ = some y) (f5 : w1.frozen? ⟨w.heap.size + 1, 0, none⟩ = false)
    (c6 : w1.cell? ⟨w.heap.size + 1 + 1, 0, none⟩ = some (.int .i64 0)) (f6 : w1.frozen? ⟨w.heap.size + 1 + 1, 0, none⟩ = false) (z1 : w.heap.size + 3 ≤ w1.heap.size) (hb : Below w.heap.size w w1)
    (t4 : tm[4]?.getD undef = .pointer (some ⟨w.heap.size, 0, none⟩)) (t5 : tm[5]?.getD undef = .pointer (some ⟨w.heap.size + 1, 0, none⟩)) (t6 : tm[6]?.getD undef = .pointer (some ⟨w.heap.size + 1 + 1, 0, none⟩)) :
    Leaves Try.prog Try.f27 tm (fun e w' => ∃ v0_ v1_ : Value, e = .returned (.tuple #[v0_, v1_, .int .i64 40]) ∧ Kd.R (Kd.int .i64) 3 w' w.heap.size (fun _ => True) v0_ [] ∧ Kd.R (Kd.int .u8) 5 w' w.heap.size (fun _ => True) v1_ [] ∧ Below w.heap.size w w')
      [{ target := Target.fn (Fn.func 37) #[], args := #[.pointer (some ⟨w.heap.size + 1 + 1, 0, none⟩), .func (Fn.func 44) #[] #[.pointer (some ⟨w.heap.size, 0, none⟩), .pointer (some ⟨w.heap.size + 1, 0, none⟩)]] }] (.panicking [wrongE]) w1 := by
  have h1 : w.heap.size < w1.heap.size := by omega
  have h2 : w.heap.size + 1 < w1.heap.size := by omega
  have h3 : w.heap.size + 1 + 1 < w1.heap.size := by omega
  refine leaves_cons (f := 37) (args := #[.pointer (some ⟨w.heap.size + 1 + 1, 0, none⟩), .func (Fn.func 44) #[] #[.pointer (some ⟨w.heap.size, 0, none⟩), .pointer (some ⟨w.heap.size + 1, 0, none⟩)]]) (by simp) (by simp [go_sem]) ?_
  refine (pack_told.wrong ⟨w.heap.size + 1 + 1, 0, none⟩ 44 #[.pointer (some ⟨w.heap.size, 0, none⟩), .pointer (some ⟨w.heap.size + 1, 0, none⟩)] (.int .i64 0) [] w1 (fun w2 => ((w1.alloc (.cells #[] 65)).setCell ⟨w.heap.size, 0, none⟩ (.slice none 0 0)).setCell ⟨w.heap.size + 1, 0, none⟩ (.slice none 0 0) = w2) (fun W => by simp [go_sem]) ?_).mono ?_
  · refine (tl_nil_ok ⟨w.heap.size, 0, none⟩ ⟨w.heap.size + 1, 0, none⟩ x y _ (by simp) (by rw [World.cell?_alloc_lt _ _ _ h1]; exact c4) (by rw [World.frozen?_alloc_old _ _ _ (Nat.ne_of_lt h1)]; exact f4)
      (by rw [World.cell?_alloc_lt _ _ _ h2]; exact c5) (by rw [World.frozen?_alloc_old _ _ _ (Nat.ne_of_lt h2)]; exact f5)).mono ?_
    rintro e w' ⟨rfl, rfl⟩
    refine ⟨rfl, rfl, ?_, ?_⟩
    · rw [World.cell?_setCell_other _ _ _ _ (by simp), World.cell?_setCell_other _ _ _ _ (by simp), World.cell?_alloc_lt _ _ _ h3]; exact c6
    · rw [World.frozen?_setCell, World.frozen?_setCell, World.frozen?_alloc_old _ _ _ (Nat.ne_of_lt h3)]; exact f6
  · rintro e u' w' ⟨rfl, rfl, w2, rfl, rfl⟩
    have hs : settle (.panicking [wrongR]) = .returning := rfl
    simp only [hs]
    refine ⟨.tuple #[.slice none 0 0, .slice none 0 0, .int .i64 40], ?_, .slice none 0 0, .slice none 0 0, rfl, Kd.R_nil _ _ _ _ _, Kd.R_nil _ _ _ _ _, ?_⟩
    · refine tl_three _ _ _ _ _ _ _ _ t4 t5 t6 ?_ ?_ ?_
      · rw [World.cell?_setCell_other _ _ _ _ (by simp), World.cell?_setCell_other _ _ _ _ (by simp)]
        exact World.cell?_setCell_same _ _ _ (u := x) (by rw [World.cell?_alloc_lt _ _ _ h1]; exact c4)
      · rw [World.cell?_setCell_other _ _ _ _ (by simp)]
        exact World.cell?_setCell_same _ _ _ (u := y) (by rw [World.cell?_setCell_other _ _ _ _ (by simp), World.cell?_alloc_lt _ _ _ h2]; exact c5)
      · exact World.cell?_setCell_same _ _ _ (u := .int .i64 0) (by rw [World.cell?_setCell_other _ _ _ _ (by simp), World.cell?_setCell_other _ _ _ _ (by simp), World.cell?_alloc_lt _ _ _ h3]; exact c6)
    · exact (((hb.alloc (by omega) _).setCell (p := ⟨w.heap.size, 0, none⟩) (Nat.le_refl _) _).setCell (p := ⟨w.heap.size + 1, 0, none⟩) (by simp) _).setCell (p := ⟨w.heap.size + 1 + 1, 0, none⟩) (by simp; omega) _
/-- What holds at each round's head: the three variables in memory, the numbers taken, and what is left. -/
def TLInv (w : World) (A0 : Option Addr) (l0 : List Int) (A4 : Option Addr) (c4 : Nat) (xs : List Int) (A5 : Option Addr) (c5 : Nat) (rest : List Int) (W : World) : Prop :=
  W.cell? ⟨w.heap.size, 0, none⟩ = some (.slice A4 xs.length c4) ∧ W.frozen? ⟨w.heap.size, 0, none⟩ = false ∧ W.cell? ⟨w.heap.size + 1, 0, none⟩ = some (.slice A5 rest.length c5) ∧ W.frozen? ⟨w.heap.size + 1, 0, none⟩ = false ∧
  W.cell? ⟨w.heap.size + 1 + 1, 0, none⟩ = some (.int .i64 0) ∧ W.frozen? ⟨w.heap.size + 1 + 1, 0, none⟩ = false ∧
  Kd.R (Kd.int .i64) 3 W w.heap.size (fun k => w.heap.size + 3 ≤ k) (.slice A4 xs.length c4) xs ∧ (∀ W', Kd.C (Kd.int .u8) W' A0 l0.length l0 → Kd.C (Kd.int .u8) W' A5 rest.length rest) ∧ rest.length ≤ c5 ∧ rest.length ≤ l0.length ∧
  Below w.heap.size w W ∧ w.heap.size + 3 ≤ W.heap.size
theorem TLInv.mid {w : World} {A0 A4 A5 A6 : Option Addr} {l0 xs rest z2 : List Int} {c4 c5 c6 nd : Nat} {W0 w7 : World} (h : TLInv w A0 l0 A4 c4 xs A5 c5 rest W0)
    (hg : ((W0.drewN nd).setCell ⟨w.heap.size + 1, 0, none⟩ (.slice A6 z2.length c6)).grownBy w7 (Value.slice A4 xs.length c4).ownBlock) :
    w7.cell? ⟨w.heap.size, 0, none⟩ = some (.slice A4 xs.length c4) ∧ w7.frozen? ⟨w.heap.size, 0, none⟩ = false ∧ w7.cell? ⟨w.heap.size + 1, 0, none⟩ = some (.slice A6 z2.length c6) ∧ w7.frozen? ⟨w.heap.size + 1, 0, none⟩ = false ∧
    w7.cell? ⟨w.heap.size + 1 + 1, 0, none⟩ = some (.int .i64 0) ∧ w7.frozen? ⟨w.heap.size + 1 + 1, 0, none⟩ = false := by
  obtain ⟨h1, h2, h3, h4, h5, h6, h7, h8, h9, h10, h11, h12⟩ := h
  have hne : ∀ j : Nat, j < w.heap.size + 3 → some j ≠ (Value.slice A4 xs.length c4).ownBlock := fun j hj he => by have := h7.1 j he.symm; omega
  have hs : ((W0.drewN nd).setCell ⟨w.heap.size + 1, 0, none⟩ (.slice A6 z2.length c6)).heap.size = W0.heap.size := by simp
  have b0 := hg.block w.heap.size (by rw [hs]; omega) (hne _ (by omega))
  have b1 := hg.block (w.heap.size + 1) (by rw [hs]; omega) (hne _ (by omega))
  have b2 := hg.block (w.heap.size + 1 + 1) (by rw [hs]; omega) (hne _ (by omega))
  refine ⟨(World.cell?_of_block b0).trans ?_, (World.frozen?_of_block b0).trans ?_, (World.cell?_of_block b1).trans ?_, (World.frozen?_of_block b1).trans ?_, (World.cell?_of_block b2).trans ?_, (World.frozen?_of_block b2).trans ?_⟩
  · rw [World.cell?_setCell_other _ _ _ _ (by simp)]; exact h1
  · rw [World.frozen?_setCell]; exact h2
  · exact World.cell?_setCell_same _ _ _ (u := .slice A5 rest.length c5) h3
  · rw [World.frozen?_setCell]; exact h4
  · rw [World.cell?_setCell_other _ _ _ _ (by simp)]; exact h5
  · rw [World.frozen?_setCell]; exact h6
theorem TLInv.next {w : World} {A0 A4 A5 A6 A7 : Option Addr} {l0 xs rest z2 : List Int} {n : Int} {c4 c5 c6 c7 nd : Nat} {W0 w7 : World} (h : TLInv w A0 l0 A4 c4 xs A5 c5 rest W0)
    (hg : ((W0.drewN nd).setCell ⟨w.heap.size + 1, 0, none⟩ (.slice A6 z2.length c6)).grownBy w7 (Value.slice A4 xs.length c4).ownBlock) (hb : Below w.heap.size w w7)
    (ho : Kd.R (Kd.int .i64) 3 w7 w.heap.size (fun k => w.heap.size + 3 ≤ k) (.slice A7 (xs ++ [n]).length c7) (xs ++ [n]))
    (hr : ∀ W', Kd.C (Kd.int .u8) W' A5 rest.length rest → Kd.C (Kd.int .u8) W' A6 z2.length z2) (hc : z2.length ≤ c6) (hl : z2.length ≤ rest.length) :
    TLInv w A0 l0 A7 c7 (xs ++ [n]) A6 c6 z2 (w7.setCell ⟨w.heap.size, 0, none⟩ (.slice A7 (xs ++ [n]).length c7)) := by
  obtain ⟨m1, m2, m3, m4, m5, m6⟩ := TLInv.mid h hg
  obtain ⟨h1, h2, h3, h4, h5, h6, h7, h8, h9, h10, h11, h12⟩ := h
  have hsz := hg.size
  simp at hsz
  refine ⟨World.cell?_setCell_same _ _ _ m1, ?_, ?_, ?_, ?_, ?_, Kd.R_far ho (fun k hk => by simp; omega) _, fun W' hW => hr W' (h8 W' hW), hc, by omega, hb.setCell (p := ⟨w.heap.size, 0, none⟩) (Nat.le_refl _) _, by simp; omega⟩
  · rw [World.frozen?_setCell]; exact m2
  · rw [World.cell?_setCell_other _ _ _ _ (by simp)]; exact m3
  · rw [World.frozen?_setCell]; exact m4
  · rw [World.cell?_setCell_other _ _ _ _ (by simp)]; exact m5
  · rw [World.frozen?_setCell]; exact m6
/-- The answer, where so many numbers are taken already. -/
def tlRes (xs : List Int) (o : Option (List Int × List Int)) : List Int × List Int × Int := match o with | some p => (xs ++ p.1, p.2, 0) | none => ([], [], 40)
theorem tlRes_step (a1 : Int) (xs rest : List Int) (m : Nat) (h : a1 ≤ (rest.length : Int)) : tlRes xs (pkTL a1 (m + 1) rest) = tlRes (xs ++ [tkl 0 (rest.take a1.toNat)]) (pkTL a1 m (rest.drop a1.toNat)) := by
  simp only [pkTL, if_pos h]
  cases pkTL a1 m (rest.drop a1.toNat) <;> simp [tlRes]
set_option maxHeartbeats 8000000 in
set_option maxRecDepth 100000 in
theorem pack_TakeList.calls (A0 : Option Addr) (c0 : Nat) (l0 : List Int) (a1 : Int) (r1 : List Int) (r2 : List Int) (r3 : Int) (w : World) (hr0 : Kd.C (Kd.int .u8) w A0 l0.length l0) (hc0 : l0.length ≤ c0) (h : pack_TakeList.f l0 a1 = some (r1, r2, r3)) :
    Calls Try.prog 27 #[.slice A0 l0.length c0, .int .i64 a1] w fun e w' => ∃ v0_ v1_ : Value, e = .returned (.tuple #[v0_, v1_, .int .i64 r3]) ∧ Kd.R (Kd.int .i64) 3 w' w.heap.size (fun _ => True) v0_ r1 ∧ Kd.R (Kd.int .u8) 5 w' w.heap.size (fun _ => True) v1_ r2 ∧ Below w.heap.size w w' := by
  unfold pack_TakeList.f at h
  by_cases hl : l0.length < 140737488355328
  · rw [if_pos hl] at h
    by_cases hmany : 0 ≤ tkl 0 (l0.take 1) ∧ tkl 0 (l0.take 1) ≤ 255
    · rw [if_pos hmany] at h
      have h := Option.some.inj h
      have HL := Aside0.mk hl
      have HR0 := Aside0.mk hr0
      have HC0 := Aside0.mk hc0
      have HL8 := Aside0.mk (show (l0.length : Int) * 8 ≤ 9223372036854775807 by omega)
      obtain ⟨many, hM⟩ : ∃ many : Nat, tkl 0 (l0.take 1) = (many : Int) := ⟨(tkl 0 (l0.take 1)).toNat, by omega⟩
      have HMANY := Aside0.mk (show many ≤ 255 by omega)
      have HTK := Aside0.mk hM
      have HH := Aside0.mk h
      clear hr0 hc0 hl hM hmany h
      have hmf : ∀ (fn : Fn) (first cap : Array Value) (W : World), (Instr.makeFunc fn first cap).run Try.prog W = .ok (.func fn first cap) W := fun _ _ _ _ => rfl
      by_cases hk : okSize a1 = true
      · have HK := Aside0.mk hk
        by_cases h1 : 1 ≤ l0.length
        · have HK1 := Aside0.mk (show okSize 1 = true from rfl)
          have HM := Aside0.mk (show (1 : Int) ≤ (l0.length : Int) by omega)
          obtain ⟨z, hz⟩ : ∃ z : List Int, z = l0.drop 1 := ⟨_, rfl⟩
          have HZ := Aside0.mk hz
          have HZL := Aside0.mk (show z.length ≤ l0.length by rw [hz, List.length_drop]; omega)
          have HRES := Aside0.mk (show tlRes [] (pkTL a1 many z) = (r1, r2, r3) by
            rw [← HH.out, pkTakeList, if_pos ⟨hk, h1⟩, HTK.out, hz, Int.toNat_natCast]; cases pkTL a1 many (l0.drop 1) <;> simp [tlRes])
          clear hz hk h1 HH
          go_enter_defers Try.func27, Try.ntmps27
          go_wp2_with (first | (go_at_call 39; (with_reducible refine (pack_bits.ok a1 HK.out _).mono ?_); rintro e w' ⟨rfl, rfl⟩) | (go_at_call 45; (with_reducible refine (pack_take.ok A0 c0 l0 1 HL8.out HK1.out HM.out _ ?s1 HC0.out).mono ?_); (case s1 => repeat (first | exact HR0.out | (with_reducible refine Kd.C_alloc ?_ _))); rintro e w1 ⟨A1, c1, rfl, hc1, hr1, ⟨nd, rfl⟩⟩; (try simp only [Int.reduceToNat] at hr1 hc1 ⊢); rw [← HZ.out] at hr1 hc1; rw [← HZ.out, HTK.out]; have HC1 := Aside0.mk hc1; have HR1 := Aside0.mk hr1; clear hc1 hr1))
          generalize hW6 : World.setCell _ _ _ = W6
          have hI : TLInv w A0 l0 none 0 [] A1 c1 z W6 := by
            have hb : Below w.heap.size w ((((w.alloc (.cells #[.slice none 0 0] 24)).alloc (.cells #[.slice none 0 0] 22)).alloc (.cells #[.int .i64 0] 30)).drewN nd) := pw_below_drewN (below_alloc (below_alloc (below_alloc (Below.refl _ _) _) _) _) _
            rw [← hW6]
            refine ⟨?_, ?_, World.cell?_setCell_same _ _ _ (t3_b _ _ _ _ _ _ _ _), ?_, ?_, ?_, Kd.R_nil _ _ _ _ _, HR1.out, HC1.out, HZL.out, hb.setCell (p := ⟨w.heap.size + 1, 0, none⟩) (by simp) _, by simp⟩
            · rw [World.cell?_setCell_other _ _ _ _ (by simp)]; exact t3_a _ _ _ _ _ _ _ _
            · rw [World.frozen?_setCell]; exact s3_a _ _ _ _ _ _ _ _
            · rw [World.frozen?_setCell]; exact s3_b _ _ _ _ _ _ _ _
            · rw [World.cell?_setCell_other _ _ _ _ (by simp)]; exact t3_c _ _ _ _ _ _ _ _
            · rw [World.frozen?_setCell]; exact s3_c _ _ _ _ _ _ _ _
          have HI := Aside0.mk hI
          clear hW6 hI
          go_loopg [18] (many + 1) (fun kq v18 w' => ∃ (i : Nat) (A4 : Option Addr) (c4 : Nat) (xs : List Int) (A5 : Option Addr) (c5 : Nat) (rest : List Int), v18 = .int .i64 (i : Int) ∧ Aside0 (i ≤ many ∧ many - i < kq ∧ xs.length = i ∧ tlRes xs (pkTL a1 (many - i) rest) = (r1, r2, r3)) ∧ Aside0 (TLInv w A0 l0 A4 c4 xs A5 c5 rest w'))
          case atStart => exact ⟨0, none, 0, [], A1, c1, z, rfl, ⟨by omega, by omega, rfl, HRES.out⟩, HI⟩
          case round =>
            obtain ⟨i, A4, c4, xs, A5, c5, rest, rfl, HA, HJ⟩ := hrel
            obtain ⟨hi1, hi2, hi3, hi4⟩ := HA.out
            obtain ⟨k4, f4, k5, f5, k6, f6, hRx, hRr, hcr, hlr, hBi, hSi⟩ := HJ.out
            have HRX := Aside0.mk hRx
            have HRR := Aside0.mk hRr
            have HCR := Aside0.mk hcr
            have HLR := Aside0.mk hlr
            have HBI := Aside0.mk hBi
            have HSI := Aside0.mk hSi
            by_cases hlt : i < many
            · have q0 : (i : Int) < (many : Int) := by omega
              have hb0 : decide ((i : Int) < (many : Int)) = true := decide_eq_true q0
              have hb1 : decide (i < many) = true := decide_eq_true hlt
              have HLT := Aside0.mk hlt
              obtain ⟨m, hm⟩ : ∃ m, many - i = m + 1 := ⟨many - i - 1, by omega⟩
              rw [hm] at hi4
              have HMI := Aside0.mk (show many - (i + 1) = m by omega)
              have HR5 := Aside0.mk (hRr _ (Kd.C_below HR0.out hBi))
              have HL5 := Aside0.mk (show (rest.length : Int) * 8 ≤ 9223372036854775807 by have := HL.out; omega)
              by_cases hfit : a1 ≤ (rest.length : Int)
              · rw [tlRes_step a1 xs rest m hfit] at hi4
                have HI4 := Aside0.mk hi4
                have HFIT := Aside0.mk hfit
                obtain ⟨n, hn⟩ : ∃ n, n = tkl 0 (rest.take a1.toNat) := ⟨_, rfl⟩
                obtain ⟨z2, hz2⟩ : ∃ z2, z2 = rest.drop a1.toNat := ⟨_, rfl⟩
                have HN := Aside0.mk hn
                have HZ2 := Aside0.mk hz2
                clear q0 hm hi1 hi2 hi3 hi4 hRx hRr hcr hlr hBi hSi hfit hn hz2
                go_wp2_with (first | (go_at_call 45; (with_reducible refine (pack_take.ok A5 c5 rest a1 HL5.out HK.out HFIT.out _ HR5.out HCR.out).mono ?_); rintro e w6 ⟨A6, c6, rfl, hc6, hr6, ⟨nd2, rfl⟩⟩; rw [← HZ2.out] at hr6 hc6; rw [← HN.out, ← HZ2.out]; have HC6 := Aside0.mk hc6; have HR6 := Aside0.mk hr6; clear hc6 hr6) | ((with_reducible refine gate_builtin (b := .append) (xs := #[.tmp 26, .tmp 28]) rfl ?_); at_builtin; refine Kd.R_append (Kd.int .i64) (w0 := w) w.heap.size rfl (.tmp 26) (.tmp 28) 24 3 (.int .i64 0) 8 rfl Try.underlying24 info3 rfl (by decide) (by omega) (.slice A4 xs.length c4) xs n [.int .i64 n] (fun k => w.heap.size + 3 ≤ k) (fun _ => False) rfl (by go_simp; first | done | simp) ?aP (fun _ hk => hk.elim) ?aF ?aO ?aB ?aS ?aL ?_; (case aP => exact rfl); (case aB => exact (pw_below_drewN HBI.out _).setCell (p := ⟨w.heap.size + 1, 0, none⟩) (by simp) _); (case aF => exact (fun k hk => by have := HSI.out; simp at hk; omega)); (case aO => exact Kd.R_far (Kd.R_drewN HRX.out _) (fun k hk => by simp; omega) _); (case aS => have := HSI.out; simp; omega); (case aL => have := HA.out.2.2.1; have := HMANY.out; have := HLT.out; omega); intro v7 w7 ho hb hg hat; clear hat; obtain ⟨Ao7, co7, eo7⟩ := Kd.R_slice ho; subst eo7; obtain ⟨m4, g4, m5, g5, m6, g6⟩ := TLInv.mid HJ.out hg; have HO7 := Aside0.mk ho; have HB7 := Aside0.mk hb; have HG7 := Aside0.mk hg; clear ho hb hg))
                go_roundg (gk - 1)
                case measure => obtain ⟨hi1, hi2, hi3, hi4⟩ := HA.out; omega
                case rel =>
                  obtain ⟨hi1, hi2, hi3, hi4⟩ := HA.out
                  have hlt := HLT.out
                  have g1 : i + 1 ≤ many := by omega
                  have g2 : many - (i + 1) < gk - 1 := by omega
                  have g3 : (xs ++ [n]).length = i + 1 := by simp; exact hi3
                  have hmy := HMANY.out
                  have hw : wrap64 ((i : Int) + 1) = ((i + 1 : Nat) : Int) := wof (by omega) (by omega)
                  refine ⟨i + 1, Ao7, co7, xs ++ [n], A6, c6, z2, by rw [hw], ⟨g1, g2, g3, by rw [HMI.out, HN.out, HZ2.out]; exact HI4.out⟩, ⟨by have hx := TLInv.next HJ.out HG7.out HB7.out HO7.out HR6.out HC6.out (by rw [HZ2.out, List.length_drop]; omega); rw [List.length_append, List.length_singleton] at hx; exact hx⟩⟩
              · have hz : (r1, r2, r3) = ([], [], 40) := by rw [← hi4]; simp [pkTL, hfit, tlRes]
                simp only [Prod.mk.injEq] at hz
                obtain ⟨rfl, rfl, rfl⟩ := hz
                have HNO := Aside0.mk (show okSize a1 = false ∨ (rest.length : Int) < a1 from .inr (by omega))
                clear q0 hm hi1 hi2 hi3 hi4 hRx hRr hcr hlr hBi hSi hfit HRES
                go_wp2_with (first | (go_at_call 45; (with_reducible refine (pack_take.no A5 c5 rest a1 HL5.out HNO.out _).mono ?_); rintro e w6 ⟨rfl, rfl⟩))
                simp only [Exit.then, Exit.inBlock, bodyPostD]
                exact tl_tail_no w _ _ _ _ k4 f4 k5 f5 k6 f6 HSI.out HBI.out rfl rfl rfl
            · have hie : i = many := by omega
              subst hie
              have hb0 : decide ((i : Int) < (i : Int)) = false := decide_eq_false (by omega)
              have hb1 : decide (i < i) = false := decide_eq_false (by omega)
              have hz : (r1, r2, r3) = (xs, rest, 0) := by rw [← hi4, Nat.sub_self]; simp [pkTL, tlRes]
              simp only [Prod.mk.injEq] at hz
              obtain ⟨e1, e2, rfl⟩ := hz
              have E1 := Aside0.mk e1
              have E2 := Aside0.mk e2
              have hcf : slices_Clone_byte_byte.f rest = some rest := by unfold slices_Clone_byte_byte.f; rw [if_pos (by have := HL.out; omega)]
              have HCF := Aside0.mk hcf
              have HR5 := Aside0.mk (hRr _ (Kd.C_below HR0.out hBi))
              clear hi1 hi2 hi3 hi4 hRx hRr hcr hlr hBi hSi e1 e2 hcf HA HRES hlt
              go_wp2
              go_region_with (first | (go_at_call 35; (with_reducible refine (slices_Clone_byte_byte.calls A5 c5 rest rest _ ?s1 HCR.out HCF.out).mono ?_); (case s1 => repeat (first | exact HR5.out | (with_reducible refine Kd.C_drewN ?_ _) | (with_reducible refine Kd.C_drew ?_))); rintro e w3 ⟨v3, rfl, hR3, hb3⟩; obtain ⟨Ao3, co3, eo3⟩ := Kd.R_slice hR3; subst eo3; have z3 := HSI.out; have d4 := (hb3.cell (p := ⟨w.heap.size, 0, none⟩) (show w.heap.size < _ by simp; omega)).trans (show _ = _ from k4); have g4 := (hb3.frozen (p := ⟨w.heap.size, 0, none⟩) (show w.heap.size < _ by simp; omega)).trans (show _ = _ from f4); have d5 := (hb3.cell (p := ⟨w.heap.size + 1, 0, none⟩) (show w.heap.size + 1 < _ by simp; omega)).trans (show _ = _ from k5); have g5 := (hb3.frozen (p := ⟨w.heap.size + 1, 0, none⟩) (show w.heap.size + 1 < _ by simp; omega)).trans (show _ = _ from f5); have d6 := (hb3.cell (p := ⟨w.heap.size + 1 + 1, 0, none⟩) (show w.heap.size + 1 + 1 < _ by simp; omega)).trans (show _ = _ from k6); have g6 := (hb3.frozen (p := ⟨w.heap.size + 1 + 1, 0, none⟩) (show w.heap.size + 1 + 1 < _ by simp; omega)).trans (show _ = _ from f6); have HR3 := Aside0.mk hR3; have HB3 := Aside0.mk hb3; clear hR3 hb3 z3))
              all_goals
                go_wp2
                simp only [Exit.then, Exit.inBlock, bodyPostD]
                refine leaves_cons (f := 37) (args := #[.pointer (some ⟨w.heap.size + 1 + 1, 0, none⟩), .func (Fn.func 44) #[] #[.pointer (some ⟨w.heap.size, 0, none⟩), .pointer (some ⟨w.heap.size + 1, 0, none⟩)]]) (by simp) (by simp [go_sem]) ?_
                refine (pack_told.idle _ _ _).mono ?_
                rintro e u' w' ⟨rfl, rfl, rfl⟩
                have hs : settle .returning = .returning := rfl
                simp only [hs]
                rw [E1.out, E2.out]
                refine ⟨.tuple #[.slice A4 xs.length c4, .slice Ao3 rest.length co3, .int .i64 0], ?_, _, _, rfl, ?_, ?_, ?_⟩
                · refine tl_three _ _ _ _ _ _ _ _ rfl rfl rfl ?_ ?_ ?_
                  · rw [World.cell?_setCell_other _ _ _ _ (by simp), World.cell?_setCell_other _ _ _ _ (by simp)]
                    exact World.cell?_setCell_same _ _ _ d4
                  · rw [World.cell?_setCell_other _ _ _ _ (by simp)]
                    exact World.cell?_setCell_same _ _ _ (by rw [World.cell?_setCell_other _ _ _ _ (by simp)]; exact d5)
                  · exact World.cell?_setCell_same _ _ _ (by rw [World.cell?_setCell_other _ _ _ _ (by simp), World.cell?_setCell_other _ _ _ _ (by simp)]; exact d6)
                · have r1 := Kd.R_below (Kd.R_drew HRX.out) HB3.out
                  exact Kd.R_mono (Kd.R_far (Kd.R_far (Kd.R_far r1 (fun k hk => by simp; omega) _) (fun k hk => by simp; omega) _) (fun k hk => by simp; omega) _) (fun _ _ => trivial)
                · have r1 := Kd.R_bound HR3.out
                  have hz5 := HSI.out
                  exact Kd.R_mono (Kd.R_lower (Kd.R_far (Kd.R_far (Kd.R_far r1 (fun k hk => by have := hk.2.1; simp at this; simp; omega) _) (fun k hk => by have := hk.2.1; simp at this; simp; omega) _) (fun k hk => by have := hk.2.1; simp at this; simp; omega) _) (by simp; omega)) (fun _ _ => trivial)
                · have hz5 := HSI.out
                  have hb : Below w.heap.size w w3 := HBI.out.trans ((Below.drew (Below.refl _ _)).trans (HB3.out.mono (by simp; omega)))
                  exact ((hb.setCell (p := ⟨w.heap.size, 0, none⟩) (Nat.le_refl _) _).setCell (p := ⟨w.heap.size + 1, 0, none⟩) (by simp) _).setCell (p := ⟨w.heap.size + 1 + 1, 0, none⟩) (by simp; omega) _
        · have hz : (r1, r2, r3) = ([], [], 40) := by rw [← HH.out]; unfold pkTakeList; rw [if_neg (fun hx => h1 hx.2)]
          simp only [Prod.mk.injEq] at hz
          obtain ⟨rfl, rfl, rfl⟩ := hz
          have HM := Aside0.mk (show okSize 1 = false ∨ (l0.length : Int) < 1 from .inr (by omega))
          clear hk h1
          go_enter_defers Try.func27, Try.ntmps27
          go_wp2_with (first | (go_at_call 39; (with_reducible refine (pack_bits.ok a1 HK.out _).mono ?_); rintro e w' ⟨rfl, rfl⟩) | (go_at_call 45; (with_reducible refine (pack_take.no A0 c0 l0 1 HL8.out HM.out _).mono ?_); rintro e w1 ⟨rfl, rfl⟩))
          simp only [bodyPostD]
          exact tl_tail_no w _ _ _ _ (t3_a _ _ _ _ _ _ _ 0) (s3_a _ _ _ _ _ _ _ 0) (t3_b _ _ _ _ _ _ _ 0) (s3_b _ _ _ _ _ _ _ 0) (t3_c _ _ _ _ _ _ _ 0) (s3_c _ _ _ _ _ _ _ 0) (by simp) (below_alloc (below_alloc (below_alloc (Below.refl _ _) _) _) _) rfl rfl rfl
      · have hz : (r1, r2, r3) = ([], [], 40) := by rw [← HH.out]; unfold pkTakeList; rw [if_neg (fun hx => hk hx.1)]
        simp only [Prod.mk.injEq] at hz
        obtain ⟨rfl, rfl, rfl⟩ := hz
        have HM := Aside0.mk (show okSize a1 = false by simpa using hk)
        clear hk
        go_enter_defers Try.func27, Try.ntmps27
        go_wp2_with (first | (go_at_call 39; (with_reducible refine (pack_bits.no a1 HM.out _).mono ?_); rintro e w1 ⟨rfl, rfl⟩))
        simp only [bodyPostD]
        exact tl_tail_no w _ _ _ _ (t3_a _ _ _ _ _ _ _ 0) (s3_a _ _ _ _ _ _ _ 0) (t3_b _ _ _ _ _ _ _ 0) (s3_b _ _ _ _ _ _ _ 0) (t3_c _ _ _ _ _ _ _ 0) (s3_c _ _ _ _ _ _ _ 0) (by simp) (below_alloc (below_alloc (below_alloc (Below.refl _ _) _) _) _) rfl rfl rfl
    · rw [if_neg hmany] at h; cases h
  · rw [if_neg hl] at h; cases h


end Go.Proofs.Ytfoffgbhfokccaa.A
