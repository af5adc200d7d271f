/- Lean functions that answer as the Go functions do, and the proofs that they do; no conditions. Written by this session's own driver: a scratch copy of the kit's print with the session's additions (wip/xprint). -/
import Derived.Test.YtfoffgbhfokccaaAx0
import Derived.Test.YtfoffgbhfokccaaAx2
import Derived.Test.YtfoffgbhfokccaaAx3
import Derived.Test.YtfoffgbhfokccaaAx4
namespace Go.Proofs.Ytfoffgbhfokccaa.A
open Go.RowKit Go.Proofs.YtfoffgbhfokccaaW.PrintWords Go.Proofs.YtfoffgbhfokccaaW.PrintLast Go.Proofs.YtfoffgbhfokccaaW.PrintMore
attribute [local go_sem] max2_int min2_int max_two min_two max_three min_three max_four min_four   -- for this text's walks alone
set_option linter.unusedVariables false
set_option linter.unusedSimpArgs false

/-! ### pack_Put: function 23 (given) -/
/-- Has a number so many bytes? -/
def pkMay (n size : Int) : Bool := (size == 1 && decide (0 ≤ n) && decide (n ≤ 255)) || (size == 2 && decide (0 ≤ n) && decide (n ≤ 65535)) || size == 8
/-- A number's bytes, the highest first. -/
def pkBytes : Nat → Int → List Int
  | 0, _ => []
  | m + 1, n => (n / 2 ^ (8 * m)) % 256 :: pkBytes m n
theorem pkMay_cases {n size : Int} (h : pkMay n size = true) : (size = 1 ∧ 0 ≤ n ∧ n ≤ 255) ∨ (size = 2 ∧ 0 ≤ n ∧ n ≤ 65535) ∨ size = 8 := by
  simp [pkMay] at h
  omega
theorem pkMay_not {n size : Int} (h : pkMay n size = false) : okSize size = false ∨ (size = 1 ∧ n < 0) ∨ (size = 1 ∧ 255 < n) ∨ (size = 2 ∧ n < 0) ∨ (size = 2 ∧ 65535 < n) := by
  by_cases h1 : size = 1
  · subst h1; simp [pkMay] at h; omega
  · by_cases h2 : size = 2
    · subst h2; simp [pkMay] at h; omega
    · by_cases h8 : size = 8
      · subst h8; simp [pkMay] at h
      · left; simp [okSize, h1, h2, h8]
theorem pack_put.no (u : Value) (a1 a2 : Int) (h : pkMay a1 a2 = false) (w : World) : Calls Try.prog 40 #[u, .int .i64 a1, .int .i64 a2] w fun e w' => e = .panicked [wrongE] ∧ w = w' := by
  rcases pkMay_not h with hk | ⟨rfl, hn⟩ | ⟨rfl, hn⟩ | ⟨rfl, hn⟩ | ⟨rfl, hn⟩
  · have HK := Aside0.mk hk
    clear hk h
    go_enter Try.func40, Try.ntmps40
    go_wp2_with (first | (go_at_call 39; (with_reducible refine (pack_bits.no a2 HK.out _).mono ?_); rintro e w' ⟨rfl, rfl⟩))
    exact ⟨rfl, rfl, rfl⟩
  all_goals
    have hb1 : okSize 1 = true := rfl
    have hb2 : okSize 2 = true := rfl
    have HK1 := Aside0.mk hb1
    have HK2 := Aside0.mk hb2
    clear h hb1 hb2
  · have h1 : decide (0 ≤ a1) = false := decide_eq_false (by omega)
    clear hn
    go_enter Try.func40, Try.ntmps40
    go_wp2_with (first | (go_at_call 39; (with_reducible refine (pack_bits.ok 1 HK1.out _).mono ?_); rintro e w' ⟨rfl, rfl⟩) | (go_at_call 48; (with_reducible refine (pack_must.no _).mono ?_); rintro e w' ⟨rfl, rfl⟩))
    exact ⟨rfl, rfl, rfl⟩
  · have h1 : decide (0 ≤ a1) = true := decide_eq_true (by omega)
    have h2 : decide (a1 < 256) = false := decide_eq_false (by omega)
    clear hn
    go_enter Try.func40, Try.ntmps40
    go_wp2_with (first | (go_at_call 39; (with_reducible refine (pack_bits.ok 1 HK1.out _).mono ?_); rintro e w' ⟨rfl, rfl⟩) | (go_at_call 48; (with_reducible refine (pack_must.no _).mono ?_); rintro e w' ⟨rfl, rfl⟩))
    exact ⟨rfl, rfl, rfl⟩
  · have h1 : decide (0 ≤ a1) = false := decide_eq_false (by omega)
    clear hn
    go_enter Try.func40, Try.ntmps40
    go_wp2_with (first | (go_at_call 39; (with_reducible refine (pack_bits.ok 2 HK2.out _).mono ?_); rintro e w' ⟨rfl, rfl⟩) | (go_at_call 48; (with_reducible refine (pack_must.no _).mono ?_); rintro e w' ⟨rfl, rfl⟩))
    exact ⟨rfl, rfl, rfl⟩
  · have h1 : decide (0 ≤ a1) = true := decide_eq_true (by omega)
    have h2 : decide (a1 < 65536) = false := decide_eq_false (by omega)
    clear hn
    go_enter Try.func40, Try.ntmps40
    go_wp2_with (first | (go_at_call 39; (with_reducible refine (pack_bits.ok 2 HK2.out _).mono ?_); rintro e w' ⟨rfl, rfl⟩) | (go_at_call 48; (with_reducible refine (pack_must.no _).mono ?_); rintro e w' ⟨rfl, rfl⟩))
    exact ⟨rfl, rfl, rfl⟩
theorem wof {x : Int} (h : -9223372036854775808 ≤ x) (h' : x ≤ 9223372036854775807) : wrap64 x = x := by unfold wrap64; omega
theorem put_l0 (a1 : Int) (m : Nat) : ∀ (k : Nat) (l : List Int), l.length + m < 140737488355328 → m ≤ 8 → m < k → pack_put.l0 k l a1 (8 * (m : Int) - 8) = some (l ++ pkBytes m a1) := by
  induction m with
  | zero =>
    intro k l hl hm hk
    obtain ⟨k, rfl⟩ : ∃ q, k = q + 1 := ⟨k - 1, by omega⟩
    simp [pack_put.l0, pkBytes]
  | succ m ih =>
    intro k l hl hm hk
    obtain ⟨k, rfl⟩ : ∃ q, k = q + 1 := ⟨k - 1, by omega⟩
    have e0 : 8 * ((m + 1 : Nat) : Int) - 8 = 8 * (m : Int) := by omega
    simp only [pack_put.l0]
    rw [e0, if_pos (by omega), if_pos (by omega), if_pos (by omega)]
    have es : shr .i64 a1 (8 * (m : Int)) = a1 / 2 ^ (8 * m) := by
      unfold shr
      have : min (8 * (m : Int)).toNat (IntKind.i64).bits = 8 * m := by
        have : (IntKind.i64).bits = 64 := rfl
        omega
      rw [this]
    have hgo := ih k (l ++ [(shr .i64 a1 (8 * (m : Int))) % 256]) (by simp; omega) (by omega) (by omega)
    have hw : wrap64 (8 * (m : Int) - 8) = 8 * (m : Int) - 8 := wof (by omega) (by omega)
    rw [hw, hgo, es]
    simp [pkBytes]
theorem put_f (l : List Int) (n size : Int) (h : pkMay n size = true) (hl : l.length + 8 < 140737488355328) (k : Nat) (hk : 12 ≤ k) : pack_put.f k l n size = some (l ++ pkBytes size.toNat n) := by
  obtain ⟨k, rfl⟩ : ∃ q, k = q + 1 := ⟨k - 1, by omega⟩
  unfold pack_put.f
  have w1 : wrap64 0 = 0 := wof (by omega) (by omega)
  have w8 : wrap64 8 = 8 := wof (by omega) (by omega)
  have w56 : wrap64 56 = 56 := wof (by omega) (by omega)
  have s8 : shl .i64 1 8 = 256 := by decide +kernel
  have s16 : shl .i64 1 16 = 65536 := by decide +kernel
  rcases pkMay_cases h with ⟨rfl, h0, h1⟩ | ⟨rfl, h0, h1⟩ | rfl
  · have := put_l0 n 1 k l (by omega) (by omega) (by omega)
    have h2 : n < 256 := by omega
    simp at this
    simp [pack_bits.f, okSize, pack_must.f, s8, h0, h2, pack_put.j0, w1, this]
  · have := put_l0 n 2 k l (by omega) (by omega) (by omega)
    have h2 : n < 65536 := by omega
    simp at this
    simp [pack_bits.f, okSize, pack_must.f, s16, h0, h2, pack_put.j0, w8, this]
  · have := put_l0 n 8 k l (by omega) (by omega) (by omega)
    simp at this
    simp [pack_bits.f, okSize, pack_must.f, pack_put.j0, w56, this]
/-- What a number is put as. -/
def pkPut (l0 : List Int) (a1 a2 : Int) : List Int × Int := if pkMay a1 a2 = true then (l0 ++ pkBytes a2.toNat a1, 0) else ([], 40)
def pack_Put.f (l0 : List Int) (a1 a2 : Int) : Option (List Int × Int) := if l0.length + 8 < 140737488355328 then some (pkPut l0 a1 a2) else none
theorem put_nil_ok (p : Addr) (x : Value) (w : World) (hc : w.cell? p = some x) (hf : w.frozen? p = false) :
    Calls Try.prog 41 #[.pointer (some p)] w fun e w' => e = .returned (.tuple #[]) ∧ w.setCell p (.slice none 0 0) = w' := by
  go_enter Try.func41, Try.ntmps41
  go_wp2
  go_end0
  exact ⟨rfl, rfl⟩
theorem res_two (tm : Array Value) (W : World) (a b : Addr) (x y : Value) (t6 : tm[6]?.getD undef = .pointer (some a)) (t7 : tm[7]?.getD undef = .pointer (some b)) (k6 : W.cell? a = some x) (k7 : W.cell? b = some y) :
    (results Try.f23 tm).run Try.prog W = .ok (.tuple #[x, y]) W := by
  simp [results, Try.results23, go_sem, t6, t7, k6, k7]
theorem tc_a (w : World) (x y : Value) (t u : TypeId) : ((w.alloc (.cells #[x] t)).alloc (.cells #[y] u)).cell? ⟨w.heap.size, 0, none⟩ = some x := by
  rw [World.cell?_alloc_past _ _ _ (by simp), World.cell?_alloc_at _ _ _ _ rfl]; rfl
theorem tc_b (w : World) (x y : Value) (t u : TypeId) : ((w.alloc (.cells #[x] t)).alloc (.cells #[y] u)).cell? ⟨w.heap.size + 1, 0, none⟩ = some y := by
  rw [World.cell?_alloc_at _ _ _ _ (by simp)]; rfl
theorem tf_a (w : World) (x y : Value) (t u : TypeId) : ((w.alloc (.cells #[x] t)).alloc (.cells #[y] u)).frozen? ⟨w.heap.size, 0, none⟩ = false := by
  rw [World.frozen?_alloc_past _ _ _ (by simp), World.frozen?_alloc_at _ _ _ _ rfl]
theorem tf_b (w : World) (x y : Value) (t u : TypeId) : ((w.alloc (.cells #[x] t)).alloc (.cells #[y] u)).frozen? ⟨w.heap.size + 1, 0, none⟩ = false := by
  rw [World.frozen?_alloc_at _ _ _ _ (by simp)]
/-- The end of a call in which something was raised: the deferred call takes it, and the results are none, and the error. -/
theorem told_tail2 (w w1 : World) (tm : Array Value) (c6 : w1.cell? ⟨w.heap.size, 0, none⟩ = some (.slice none 0 0)) (f6 : w1.frozen? ⟨w.heap.size, 0, none⟩ = false)
    (c7 : w1.cell? ⟨w.heap.size + 1, 0, none⟩ = some (.int .i64 0)) (f7 : w1.frozen? ⟨w.heap.size + 1, 0, none⟩ = false) (z1 : w.heap.size + 2 ≤ w1.heap.size) (hb : Below w.heap.size w w1)
    (t6 : tm[6]?.getD undef = .pointer (some ⟨w.heap.size, 0, none⟩)) (t7 : tm[7]?.getD undef = .pointer (some ⟨w.heap.size + 1, 0, none⟩)) :
    Leaves Try.prog Try.f23 tm (fun e w' => ∃ v0_ : Value, e = .returned (.tuple #[v0_, .int .i64 40]) ∧ Kd.R (Kd.int .u8) 5 w' w.heap.size (fun _ => True) v0_ [] ∧ Below w.heap.size w w')
      [{ target := Target.fn (Fn.func 37) #[], args := #[.pointer (some ⟨w.heap.size + 1, 0, none⟩), .func (Fn.func 41) #[] #[.pointer (some ⟨w.heap.size, 0, none⟩)]] }] (.panicking [wrongE]) w1 := by
  have hlt : w.heap.size < w1.heap.size := by omega
  have hlt2 : w.heap.size + 1 < w1.heap.size := by omega
  refine leaves_cons (f := 37) (args := #[.pointer (some ⟨w.heap.size + 1, 0, none⟩), .func (Fn.func 41) #[] #[.pointer (some ⟨w.heap.size, 0, none⟩)]]) (by simp) (by simp [go_sem]) ?_
  refine (pack_told.wrong ⟨w.heap.size + 1, 0, none⟩ 41 #[.pointer (some ⟨w.heap.size, 0, none⟩)] (.int .i64 0) [] w1 (fun w2 => (w1.alloc (.cells #[] 65)).setCell ⟨w.heap.size, 0, none⟩ (.slice none 0 0) = w2) (fun W => by simp [go_sem]) ?_).mono ?_
  · refine (put_nil_ok ⟨w.heap.size, 0, none⟩ (.slice none 0 0) _ (by rw [World.cell?_alloc_lt _ _ _ hlt]; exact c6) (by rw [World.frozen?_alloc_old _ _ _ (Nat.ne_of_lt hlt)]; exact f6)).mono ?_
    rintro e w' ⟨rfl, rfl⟩
    refine ⟨rfl, rfl, ?_, ?_⟩
    · rw [World.cell?_setCell_other _ _ _ _ (by simp), World.cell?_alloc_lt _ _ _ hlt2]; exact c7
    · rw [World.frozen?_setCell, World.frozen?_alloc_old _ _ _ (Nat.ne_of_lt hlt2)]; exact f7
  · rintro e u' w' ⟨rfl, rfl, w2, rfl, rfl⟩
    have hs : settle (.panicking [wrongR]) = .returning := rfl
    simp only [hs]
    refine ⟨.tuple #[.slice none 0 0, .int .i64 40], ?_, .slice none 0 0, rfl, Kd.R_nil _ _ _ _ _, ?_⟩
    · have k6 : ((((w1.alloc (.cells #[] 65)).setCell ⟨w.heap.size, 0, none⟩ (.slice none 0 0)).setCell ⟨w.heap.size + 1, 0, none⟩ (.int .i64 40))).cell? ⟨w.heap.size, 0, none⟩ = some (.slice none 0 0) := by
        rw [World.cell?_setCell_other _ _ _ _ (by simp)]
        exact World.cell?_setCell_same _ _ _ (u := .slice none 0 0) (by rw [World.cell?_alloc_lt _ _ _ hlt]; exact c6)
      have k7 : ((((w1.alloc (.cells #[] 65)).setCell ⟨w.heap.size, 0, none⟩ (.slice none 0 0)).setCell ⟨w.heap.size + 1, 0, none⟩ (.int .i64 40))).cell? ⟨w.heap.size + 1, 0, none⟩ = some (.int .i64 40) :=
        World.cell?_setCell_same _ _ _ (u := .int .i64 0) (by rw [World.cell?_setCell_other _ _ _ _ (by simp), World.cell?_alloc_lt _ _ _ hlt2]; exact c7)
      exact res_two _ _ _ _ _ _ t6 t7 k6 k7
    · exact ((hb.alloc (by omega) _).setCell (p := ⟨w.heap.size, 0, none⟩) (Nat.le_refl _) _).setCell (p := ⟨w.heap.size + 1, 0, none⟩) (by simp) _
set_option maxHeartbeats 8000000 in
set_option maxRecDepth 100000 in
theorem pack_Put.calls (A0 : Option Addr) (c0 : Nat) (l0 : List Int) (a1 a2 : Int) (r1 : List Int) (r2 : Int) (w : World) (hr0 : Kd.C (Kd.int .u8) w A0 l0.length l0) (hc0 : l0.length ≤ c0) (h : pack_Put.f l0 a1 a2 = some (r1, r2)) :
    Calls Try.prog 23 #[.slice A0 l0.length c0, .int .i64 a1, .int .i64 a2] w fun e w' => ∃ v0_ : Value, e = .returned (.tuple #[v0_, .int .i64 r2]) ∧ Kd.R (Kd.int .u8) 5 w' w.heap.size (fun _ => True) v0_ r1 ∧ Below w.heap.size w w' := by
  unfold pack_Put.f at h
  by_cases hl : l0.length + 8 < 140737488355328
  · rw [if_pos hl] at h
    have h := Option.some.inj h
    have HL := Aside0.mk hl
    have HR0 := Aside0.mk hr0
    have HC0 := Aside0.mk hc0
    have hcf : slices_Clone_byte_byte.f l0 = some l0 := by unfold slices_Clone_byte_byte.f; rw [if_pos (by omega)]
    have HCF := Aside0.mk hcf
    clear hr0 hc0 hcf hl
    have hmf : ∀ (fn : Fn) (first cap : Array Value) (W : World), (Instr.makeFunc fn first cap).run Try.prog W = .ok (.func fn first cap) W := fun _ _ _ _ => rfl
    by_cases hm : pkMay a1 a2 = true
    · have hz : (r1, r2) = (l0 ++ pkBytes a2.toNat a1, 0) := by rw [← h]; simp [pkPut, hm]
      obtain ⟨rfl, rfl⟩ := Prod.mk.inj hz
      have HP := Aside0.mk (put_f l0 a1 a2 hm HL.out 12 (Nat.le_refl _))
      clear hm h hz
      obtain ⟨z, hz⟩ : ∃ z : List Int, z = l0 ++ pkBytes a2.toNat a1 := ⟨_, rfl⟩
      rw [← hz] at HP ⊢
      clear hz
      go_enter_defers Try.func23, Try.ntmps23
      go_wp2_with (first | (go_at_call 35; (with_reducible refine (slices_Clone_byte_byte.calls _ _ l0 l0 _ ?s1 HC0.out HCF.out).mono ?_); (case s1 => repeat (first | exact HR0.out | (with_reducible refine Kd.C_alloc ?_ _))); rintro e w1 ⟨v1, rfl, hR1, hb1⟩; have HR1 := Aside0.mk hR1; have HB1 := Aside0.mk hb1; clear hR1 hb1) | (go_at_call 40; (with_reducible refine (pack_put.calls 12 (fun _ => True) v1 l0 a1 a2 z _ _ HB1.out HR1.out HP.out).mono ?_); rintro e w2 ⟨v2, rfl, hR2, hb2, hk2⟩; clear hk2; have c6 : w2.cell? ⟨w.heap.size, 0, none⟩ = some (.slice none 0 0) := (by rw [hb2.cell (by simp; omega)]; exact tc_a _ _ _ _ _); have f6 : w2.frozen? ⟨w.heap.size, 0, none⟩ = false := (by rw [hb2.frozen (by simp; omega)]; exact tf_a _ _ _ _ _); have c7 : w2.cell? ⟨w.heap.size + 1, 0, none⟩ = some (.int .i64 0) := (by rw [hb2.cell (by simp)]; exact tc_b _ _ _ _ _); have f7 : w2.frozen? ⟨w.heap.size + 1, 0, none⟩ = false := (by rw [hb2.frozen (by simp)]; exact tf_b _ _ _ _ _); obtain ⟨Ao2, co2, eo2⟩ := Kd.R_slice hR2; subst eo2; have HR2 := Aside0.mk hR2; have HB2 := Aside0.mk hb2; clear hR2 hb2))
      simp only [bodyPostD]
      refine leaves_cons (f := 37) (args := #[.pointer (some ⟨w.heap.size + 1, 0, none⟩), .func (Fn.func 41) #[] #[.pointer (some ⟨w.heap.size, 0, none⟩)]]) (by simp) (by simp [go_sem]) ?_
      refine (pack_told.idle _ _ _).mono ?_
      rintro e u' w' ⟨rfl, rfl, rfl⟩
      have hs : settle .returning = .returning := rfl
      simp only [hs]
      refine ⟨.tuple #[.slice Ao2 z.length co2, .int .i64 0], ?_, _, rfl, ?_, ?_⟩
      · refine res_two _ _ _ _ _ _ rfl rfl ?_ (World.cell?_setCell_same _ _ _ (u := .int .i64 0) (by rw [World.cell?_setCell_other _ _ _ _ (by simp)]; exact c7))
        rw [World.cell?_setCell_other _ _ _ _ (by simp)]
        exact World.cell?_setCell_same _ _ _ c6
      · have r1 := Kd.R_bound HR2.out
        exact Kd.R_mono (Kd.R_lower (Kd.R_far (Kd.R_far r1 (fun k hk => by have := hk.2.1; simp at this; simp; omega) _) (fun k hk => by have := hk.2.1; simp at this; simp; omega) _) (by simp; omega)) (fun _ _ => trivial)
      · have hb : Below w.heap.size w w2 := (below_alloc (below_alloc (Below.refl _ _) _) _).trans (HB2.out.mono (by simp; omega))
        exact (hb.setCell (p := ⟨w.heap.size, 0, none⟩) (Nat.le_refl _) _).setCell (p := ⟨w.heap.size + 1, 0, none⟩) (by simp) _
    · have hm' : pkMay a1 a2 = false := by simpa using hm
      have hz : (r1, r2) = ([], 40) := by rw [← h]; simp [pkPut, hm']
      obtain ⟨rfl, rfl⟩ := Prod.mk.inj hz
      have HM := Aside0.mk hm'
      clear hm hm' h hz
      go_enter_defers Try.func23, Try.ntmps23
      go_wp2_with (first | (go_at_call 35; (with_reducible refine (slices_Clone_byte_byte.calls _ _ l0 l0 _ ?s1 HC0.out HCF.out).mono ?_); (case s1 => repeat (first | exact HR0.out | (with_reducible refine Kd.C_alloc ?_ _))); rintro e w1 ⟨v1, rfl, hR1, hb1⟩; have HR1 := Aside0.mk hR1; have HB1 := Aside0.mk hb1; clear hR1 hb1) | (go_at_call 40; (with_reducible refine (pack_put.no _ a1 a2 HM.out _).mono ?_); rintro e w2 ⟨rfl, rfl⟩))
      have hb1 := HB1.out
      have c6 : w1.cell? ⟨w.heap.size, 0, none⟩ = some (.slice none 0 0) := by rw [hb1.cell (by simp; omega)]; exact tc_a _ _ _ _ _
      have f6 : w1.frozen? ⟨w.heap.size, 0, none⟩ = false := by rw [hb1.frozen (by simp; omega)]; exact tf_a _ _ _ _ _
      have c7 : w1.cell? ⟨w.heap.size + 1, 0, none⟩ = some (.int .i64 0) := by rw [hb1.cell (by simp)]; exact tc_b _ _ _ _ _
      have f7 : w1.frozen? ⟨w.heap.size + 1, 0, none⟩ = false := by rw [hb1.frozen (by simp)]; exact tf_b _ _ _ _ _
      have z1 : w.heap.size + 2 ≤ w1.heap.size := by have := hb1.size; simp at this; omega
      have hb : Below w.heap.size w w1 := (below_alloc (below_alloc (Below.refl _ _) _) _).trans (hb1.mono (by simp; omega))
      simp only [bodyPostD]
      exact told_tail2 w w1 _ c6 f6 c7 f7 z1 hb rfl rfl
  · rw [if_neg hl] at h; cases h


end Go.Proofs.Ytfoffgbhfokccaa.A
