/- Lean functions that answer as the Go functions do, and the proofs that they do; no conditions. Written by this session's own driver: a scratch copy of the kit's print with the session's additions (wip/xprint). -/
import Derived.Test.YtfoffgbhfokccaaAx0
import Derived.Test.YtfoffgbhfokccaaAx3
namespace Go.Proofs.Ytfoffgbhfokccaa.A
open Go.RowKit Go.Proofs.YtfoffgbhfokccaaW.PrintWords Go.Proofs.YtfoffgbhfokccaaW.PrintLast Go.Proofs.YtfoffgbhfokccaaW.PrintMore
attribute [local go_sem] max2_int min2_int max_two min_two max_three min_three max_four min_four   -- for this text's walks alone
set_option linter.unusedVariables false
set_option linter.unusedSimpArgs false

/-! ### pack_take: function 45 (given) -/
/-- The number that bytes are, the highest first, behind a number. -/
def tkl : Int → List Int → Int
  | n, [] => n
  | n, c :: r => tkl (Go.bits .or .i64 (wrap64 (n * 256)) (wrap64 c)) r
theorem pack_take.no (A0 : Option Addr) (c0 : Nat) (l0 : List Int) (a1 : Int) (hl : (l0.length : Int) * 8 ≤ 9223372036854775807) (h : okSize a1 = false ∨ (l0.length : Int) < a1) (w : World) :
    Calls Try.prog 45 #[.slice A0 l0.length c0, .int .i64 a1] w fun e w' => e = .panicked [wrongE] ∧ w = w' := by
  by_cases hk : okSize a1 = true
  · have h2 : (l0.length : Int) < a1 := by
      rcases h with h | h
      · rw [hk] at h; cases h
      · exact h
    have e1 : wrap64 (8 * (l0.length : Int)) = 8 * (l0.length : Int) := by unfold wrap64; omega
    have e2 : IntKind.i64.wrap (8 * (l0.length : Int)) = 8 * (l0.length : Int) := (i64_w _).trans e1
    have e3 : decide (a1 ≤ (l0.length : Int)) = false := decide_eq_false (by omega)
    clear h h2 hl e1
    have HK := Aside0.mk hk
    clear hk
    go_enter Try.func45, Try.ntmps45
    go_wp2_with (first | (go_at_call 39; (with_reducible refine (pack_bits.ok a1 HK.out _).mono ?_); rintro e w' ⟨rfl, rfl⟩) | (go_at_call 48; (with_reducible refine (pack_must.no _).mono ?_); rintro e w' ⟨rfl, rfl⟩))
    exact ⟨rfl, rfl, rfl⟩
  · have hk' : okSize a1 = false := by simpa using hk
    clear h hk hl
    have HK := Aside0.mk hk'
    clear hk'
    go_enter Try.func45, Try.ntmps45
    go_wp2_with (first | (go_at_call 39; (with_reducible refine (pack_bits.no a1 HK.out _).mono ?_); rintro e w' ⟨rfl, rfl⟩))
    exact ⟨rfl, rfl, rfl⟩
set_option maxHeartbeats 8000000 in
set_option maxRecDepth 100000 in
theorem pack_take.ok (A0 : Option Addr) (c0 : Nat) (l0 : List Int) (a1 : Int) (hl : (l0.length : Int) * 8 ≤ 9223372036854775807) (hk : okSize a1 = true) (h2 : a1 ≤ (l0.length : Int)) (w : World)
    (hr0 : Kd.C (Kd.int .u8) w A0 l0.length l0) (hc0 : l0.length ≤ c0) :
    Calls Try.prog 45 #[.slice A0 l0.length c0, .int .i64 a1] w fun e w' => ∃ (A1 : Option Addr) (c1 : Nat), e = .returned (.tuple #[.int .i64 (tkl 0 (l0.take a1.toNat)), .slice A1 (l0.drop a1.toNat).length c1]) ∧
      (l0.drop a1.toNat).length ≤ c1 ∧ (∀ W', Kd.C (Kd.int .u8) W' A0 l0.length l0 → Kd.C (Kd.int .u8) W' A1 (l0.drop a1.toNat).length (l0.drop a1.toNat)) ∧ Drawn0 w w' := by
  have h3 : a1 = 1 ∨ a1 = 2 ∨ a1 = 8 := by simpa [okSize, or_assoc] using hk
  have h0 : 0 ≤ a1 := by omega
  have e1 : wrap64 (8 * (l0.length : Int)) = 8 * (l0.length : Int) := by unfold wrap64; omega
  have e2 : IntKind.i64.wrap (8 * (l0.length : Int)) = 8 * (l0.length : Int) := (i64_w _).trans e1
  have e3 : decide (a1 ≤ (l0.length : Int)) = true := decide_eq_true (by omega)
  obtain ⟨y, hy⟩ : ∃ y : List Int, y = l0.take a1.toNat := ⟨_, rfl⟩
  obtain ⟨i08, hi08, _, hsz8, _⟩ := info_parts info5
  have hcut8 := cut_to (P := Try.prog) 22 5 .i64 Try.underlying22 hi08 A0 l0.length c0 a1 h0 h2 hc0
  have hr8 := Kd.C_take (m := a1.toNat) hr0 (by omega)
  have hy8 : y.length = a1.toNat := (by rw [hy, List.length_take]; omega)
  rw [← hy] at hr8
  rw [← hy8] at hcut8
  have HR := Aside0.mk hr8
  have HR0 := Aside0.mk hr0
  have HC0 := Aside0.mk hc0
  have HK := Aside0.mk hk
  have HY := Aside0.mk hy
  have HY8 := Aside0.mk hy8
  have HL := Aside0.mk h2
  have H0 := Aside0.mk h0
  have HH := Aside0.mk hl
  clear hr8 hr0 hc0 hk hy hy8 h3 hl e1 hi08 hsz8 h2 h0
  go_enter Try.func45, Try.ntmps45
  go_wp2_with (first | (go_at_call 39; (with_reducible refine (pack_bits.ok a1 HK.out _).mono ?_); rintro e w' ⟨rfl, rfl⟩) | (go_at_call 48; (with_reducible refine (pack_must.ok _).mono ?_); rintro e w' ⟨rfl, rfl⟩))
  go_loopg [6, 20] (y.length + 1) (fun kq v6 v20 w' => ∃ (x6 : Int) (i : Nat), v6 = .int .i64 x6 ∧ v20 = .int .i64 (i : Int) ∧ Aside0 (i ≤ y.length ∧ y.length - i < kq ∧ tkl x6 (y.drop i) = tkl 0 y) ∧ Aside0 (Kd.C (Kd.int .u8) w' A0 y.length y) ∧ Drawn0 w w')
  case atStart => exact ⟨0, 0, rfl, rfl, ⟨by omega, by omega, by simp⟩, HR, Drawn0.refl _⟩
  case round =>
    obtain ⟨x6, i, rfl, rfl, HI, HR1, ⟨m1, rfl⟩⟩ := hrel
    by_cases hlt : i < y.length
    · have p0 : (0 : Int) ≤ (i : Int) := by omega
      have q0 : (i : Int) < (y.length : Int) := by omega
      obtain ⟨ad, he, hx⟩ := Kd.at_int HR1.out (i : Int) p0 q0
      cases he
      rw [Int.toNat_natCast] at hx
      have hb0 : decide ((i : Int) < (y.length : Int)) = true := decide_eq_true q0
      have hb1 : decide (i < y.length) = true := decide_eq_true hlt
      have p1 := eq_true p0
      have q1 := eq_true q0
      have HLT := Aside0.mk hlt
      have hHI := HI
      clear hlt p0 q0
      go_wp2
      have hlt := HLT.out
      obtain ⟨hi1, hi2, hi3⟩ := HI.out
      go_roundg (gk - 1)
      case measure => omega
      case rel =>
        have hd : y.drop i = y[i] :: y.drop (i + 1) := List.drop_eq_getElem_cons hlt
        have hrd : rd y (i : Int) = y[i] := by unfold rd; simp [List.getD_eq_getElem?_getD, hlt]
        have hlen : y.length ≤ 8 := by have h3 : a1 = 1 ∨ a1 = 2 ∨ a1 = 8 := by simpa [okSize, or_assoc] using HK.out
                                       have := HY8.out; omega
        have g1 : i + 1 ≤ y.length := by omega
        have g2 : y.length - (i + 1) < gk - 1 := by omega
        have hw : wrap64 ((i : Int) + 1) = ((i + 1 : Nat) : Int) := by unfold wrap64; omega
        exact ⟨_, i + 1, rfl, by rw [hw], ⟨g1, g2, by rw [← hi3, hd, hrd]; rfl⟩, HR1, ⟨m1, rfl⟩⟩
    · have hi := HI.out
      obtain ⟨hi1, hi2, hi3⟩ := hi
      have hie : i = y.length := by omega
      subst hie
      have hb0 : decide ((y.length : Int) < (y.length : Int)) = false := decide_eq_false (by omega)
      have hb1 : decide (y.length < y.length) = false := decide_eq_false (by omega)
      have hres : tkl 0 (l0.take a1.toNat) = x6 := by rw [← HY.out, ← hi3]; simp [tkl]
      obtain ⟨i014, hi014, _, hsz14, _⟩ := info_parts info5
      have hcut14 := cut_from (P := Try.prog) 22 5 .i64 Try.underlying22 hi014 1 hsz14 A0 l0.length c0 a1 H0.out HL.out
      have hr14 := fun W' (hW : Kd.C (Kd.int .u8) W' A0 l0.length l0) => Kd.C_drop (m := a1.toNat) hW (by have := HL.out; omega) HC0.out
      obtain ⟨A14, hA14⟩ : ∃ A1, A1 = (if c0 = a1.toNat then A0 else (A0 : Option Addr).map (·.add (a1.toNat * 1))) := ⟨_, rfl⟩
      obtain ⟨c14, hc14⟩ : ∃ c1, c1 = c0 - a1.toNat := ⟨_, rfl⟩
      obtain ⟨z, hz⟩ : ∃ z : List Int, z = l0.drop a1.toNat := ⟨_, rfl⟩
      have hy14 : z.length = l0.length - a1.toNat := by rw [hz, List.length_drop]
      have hcz : z.length ≤ c14 := by rw [hy14, hc14]; have := HC0.out; omega
      rw [← hz] at hr14
      rw [← hy14, ← hA14, ← hc14] at hcut14
      have HR14 := Aside0.mk (show ∀ W', Kd.C (Kd.int .u8) W' A0 l0.length l0 → Kd.C (Kd.int .u8) W' A14 z.length z by rw [hA14]; exact hr14)
      have HZ := Aside0.mk hz
      have HCZ := Aside0.mk hcz
      have HRES := Aside0.mk hres
      clear hi1 hi2 hi3 hr14 hA14 hc14 hz hy14 hcz hres hi014 hsz14
      go_wp2
      repeat (go_quiet (fail); try go_wp2)
      go_ret2
      rw [← HZ.out]
      exact ⟨A14, c14, by rw [HRES.out]; rfl, HCZ.out, HR14.out, by first | exact ⟨_, World.drewN_drewN _ _ _⟩ | repeat (first | exact Drawn0.refl _ | apply Drawn0.step)⟩


end Go.Proofs.Ytfoffgbhfokccaa.A
