/- Lean functions that answer as the Go functions do, and the proofs that they do; no conditions. Written by this session's own driver: a scratch copy of the kit's print with the session's additions (wip/xprint). -/
import Derived.Test.YtjcgadfmhfhbgaaAx0
import Derived.Test.YtjcgadfmhfhbgaaAx3
import Derived.Test.YtjcgadfmhfhbgaaAx4
import Derived.Test.YtjcgadfmhfhbgaaAx5
import Derived.Test.YtjcgadfmhfhbgaaAx7
namespace Go.Proofs.Ytjcgadfmhfhbgaa.A
open Go.RowKit Go.Proofs.YtjcgadfmhfhbgaaW.PrintWords Go.Proofs.YtjcgadfmhfhbgaaW.PrintLast Go.Proofs.YtjcgadfmhfhbgaaW.PrintMore
attribute [local go_sem] max2_int min2_int max_two min_two max_three min_three max_four min_four
set_option linter.unusedVariables false
set_option linter.unusedSimpArgs false
def pkTake (l0 : List Int) (a1 : Int) : Int × List Int × Int := if okSize a1 = true ∧ a1 ≤ (l0.length : Int) then (tkl 0 (l0.take a1.toNat), l0.drop a1.toNat, 0) else (0, [], 40)
def pack_Take.f (l0 : List Int) (a1 : Int) : Option (Int × List Int × Int) := if l0.length < 140737488355328 then some (pkTake l0 a1) else none
section
variable (w : World) (x y z : Value) (t u v : TypeId) (nd : Nat)
theorem t3_a : ((((w.alloc (.cells #[x] t)).alloc (.cells #[y] u)).alloc (.cells #[z] v)).drewN nd).cell? ⟨w.heap.size, 0, none⟩ = some x := by
 rw [World.cell?_drewN, World.cell?_alloc_past _ _ _ (by simp; omega), World.cell?_alloc_past _ _ _ (by simp), World.cell?_alloc_at _ _ _ _ rfl]; rfl
theorem t3_b : ((((w.alloc (.cells #[x] t)).alloc (.cells #[y] u)).alloc (.cells #[z] v)).drewN nd).cell? ⟨w.heap.size + 1, 0, none⟩ = some y := by
 rw [World.cell?_drewN, World.cell?_alloc_past _ _ _ (by simp), World.cell?_alloc_at _ _ _ _ (by simp)]; rfl
theorem t3_c : ((((w.alloc (.cells #[x] t)).alloc (.cells #[y] u)).alloc (.cells #[z] v)).drewN nd).cell? ⟨w.heap.size + 1 + 1, 0, none⟩ = some z := by
 rw [World.cell?_drewN, World.cell?_alloc_at _ _ _ _ (by simp)]; rfl
theorem s3_a : ((((w.alloc (.cells #[x] t)).alloc (.cells #[y] u)).alloc (.cells #[z] v)).drewN nd).frozen? ⟨w.heap.size, 0, none⟩ = false := by
 rw [World.frozen?_drewN, World.frozen?_alloc_past _ _ _ (by simp; omega), World.frozen?_alloc_past _ _ _ (by simp), World.frozen?_alloc_at _ _ _ _ rfl]
theorem s3_b : ((((w.alloc (.cells #[x] t)).alloc (.cells #[y] u)).alloc (.cells #[z] v)).drewN nd).frozen? ⟨w.heap.size + 1, 0, none⟩ = false := by
 rw [World.frozen?_drewN, World.frozen?_alloc_past _ _ _ (by simp), World.frozen?_alloc_at _ _ _ _ (by simp)]
theorem s3_c : ((((w.alloc (.cells #[x] t)).alloc (.cells #[y] u)).alloc (.cells #[z] v)).drewN nd).frozen? ⟨w.heap.size + 1 + 1, 0, none⟩ = false := by
 rw [World.frozen?_drewN, World.frozen?_alloc_at _ _ _ _ (by simp)]
end
theorem take_nil_ok (p q : Addr) (x y : Value) (w : World) (hpq : p ≠ q) (hc : w.cell? p = some x) (hf : w.frozen? p = false) (hd : w.cell? q = some y) (hg : w.frozen? q = false) :
  Calls Try.prog 84 #[.pointer (some p), .pointer (some q)] w fun e w' => e = .returned (.tuple #[]) ∧ (w.setCell p (.int .i64 0)).setCell q (.slice none 0 0) = w' := by
 have hd2 : (w.setCell p (.int .i64 0)).cell? q = some y := by rw [World.cell?_setCell_other _ _ _ _ hpq]; exact hd
 have hg2 : (w.setCell p (.int .i64 0)).frozen? q = false := by rw [World.frozen?_setCell]; exact hg
 go_enter Try.func84, Try.ntmps84
 go_wp2
 go_end0
 exact ⟨rfl, rfl⟩
theorem res_three (tm : Array Value) (W : World) (a b c : Addr) (x y z : Value) (t4 : tm[4]?.getD undef = .pointer (some a)) (t5 : tm[5]?.getD undef = .pointer (some b)) (t6 : tm[6]?.getD undef = .pointer (some c))
  (k4 : W.cell? a = some x) (k5 : W.cell? b = some y) (k6 : W.cell? c = some z) :
  (results Try.f74 tm).run Try.prog W = .ok (.tuple #[x, y, z]) W := by
 simp [results, Try.results74, go_sem, t4, t5, t6, k4, k5, k6]
theorem take_tail_no (w w1 : World) (x y : Value) (tm : Array Value) (c4 : w1.cell? ⟨w.heap.size, 0, none⟩ = some x) (f4 : w1.frozen? ⟨w.heap.size, 0, none⟩ = false)
  (c5 : w1.cell? ⟨w.heap.size + 1, 0, none⟩ = some y) (f5 : w1.frozen? ⟨w.heap.size + 1, 0, none⟩ = false)
  (c6 : w1.cell? ⟨w.heap.size + 1 + 1, 0, none⟩ = some (.int .i64 0)) (f6 : w1.frozen? ⟨w.heap.size + 1 + 1, 0, none⟩ = false) (z1 : w.heap.size + 3 ≤ w1.heap.size) (hb : Below w.heap.size w w1)
  (t4 : tm[4]?.getD undef = .pointer (some ⟨w.heap.size, 0, none⟩)) (t5 : tm[5]?.getD undef = .pointer (some ⟨w.heap.size + 1, 0, none⟩)) (t6 : tm[6]?.getD undef = .pointer (some ⟨w.heap.size + 1 + 1, 0, none⟩)) :
  Leaves Try.prog Try.f74 tm (fun e w' => ∃ v1_ : Value, e = .returned (.tuple #[.int .i64 0, v1_, .int .i64 40]) ∧ Kd.R (Kd.int .u8) 5 w' w.heap.size (fun _ => True) v1_ [] ∧ Below w.heap.size w w')
   [{ target := Target.fn (Fn.func 67) #[], args := #[.pointer (some ⟨w.heap.size + 1 + 1, 0, none⟩), .func (Fn.func 84) #[] #[.pointer (some ⟨w.heap.size, 0, none⟩), .pointer (some ⟨w.heap.size + 1, 0, none⟩)]] }] (.panicking [wrongE]) w1 := by
 have h1 : w.heap.size < w1.heap.size := by omega
 have h2 : w.heap.size + 1 < w1.heap.size := by omega
 have h3 : w.heap.size + 1 + 1 < w1.heap.size := by omega
 refine leaves_cons (f := 67) (args := #[.pointer (some ⟨w.heap.size + 1 + 1, 0, none⟩), .func (Fn.func 84) #[] #[.pointer (some ⟨w.heap.size, 0, none⟩), .pointer (some ⟨w.heap.size + 1, 0, none⟩)]]) (by simp) (by simp [go_sem]) ?_
 refine (pack_told.wrong ⟨w.heap.size + 1 + 1, 0, none⟩ 84 #[.pointer (some ⟨w.heap.size, 0, none⟩), .pointer (some ⟨w.heap.size + 1, 0, none⟩)] (.int .i64 0) [] w1 (fun w2 => ((w1.alloc (.cells #[] 110)).setCell ⟨w.heap.size, 0, none⟩ (.int .i64 0)).setCell ⟨w.heap.size + 1, 0, none⟩ (.slice none 0 0) = w2) (fun W => by simp [go_sem]) ?_).mono ?_
 ·refine (take_nil_ok ⟨w.heap.size, 0, none⟩ ⟨w.heap.size + 1, 0, none⟩ x y _ (by simp) (by rw [World.cell?_alloc_lt _ _ _ h1]; exact c4) (by rw [World.frozen?_alloc_old _ _ _ (Nat.ne_of_lt h1)]; exact f4)
   (by rw [World.cell?_alloc_lt _ _ _ h2]; exact c5) (by rw [World.frozen?_alloc_old _ _ _ (Nat.ne_of_lt h2)]; exact f5)).mono ?_
  rintro e w' ⟨rfl, rfl⟩
  refine ⟨rfl, rfl, ?_, ?_⟩
  ·rw [World.cell?_setCell_other _ _ _ _ (by simp), World.cell?_setCell_other _ _ _ _ (by simp), World.cell?_alloc_lt _ _ _ h3]; exact c6
  ·rw [World.frozen?_setCell, World.frozen?_setCell, World.frozen?_alloc_old _ _ _ (Nat.ne_of_lt h3)]; exact f6
 ·rintro e u' w' ⟨rfl, rfl, w2, rfl, rfl⟩
  have hs : settle (.panicking [wrongR]) = .returning := rfl
  simp only [hs]
  refine ⟨.tuple #[.int .i64 0, .slice none 0 0, .int .i64 40], ?_, .slice none 0 0, rfl, Kd.R_nil _ _ _ _ _, ?_⟩
  ·refine res_three _ _ _ _ _ _ _ _ t4 t5 t6 ?_ ?_ ?_
   ·rw [World.cell?_setCell_other _ _ _ _ (by simp), World.cell?_setCell_other _ _ _ _ (by simp)]
    exact World.cell?_setCell_same _ _ _ (u := x) (by rw [World.cell?_alloc_lt _ _ _ h1]; exact c4)
   ·rw [World.cell?_setCell_other _ _ _ _ (by simp)]
    exact World.cell?_setCell_same _ _ _ (u := y) (by rw [World.cell?_setCell_other _ _ _ _ (by simp), World.cell?_alloc_lt _ _ _ h2]; exact c5)
   ·exact World.cell?_setCell_same _ _ _ (u := .int .i64 0) (by rw [World.cell?_setCell_other _ _ _ _ (by simp), World.cell?_setCell_other _ _ _ _ (by simp), World.cell?_alloc_lt _ _ _ h3]; exact c6)
  ·exact (((hb.alloc (by omega) _).setCell (p := ⟨w.heap.size, 0, none⟩) (Nat.le_refl _) _).setCell (p := ⟨w.heap.size + 1, 0, none⟩) (by simp) _).setCell (p := ⟨w.heap.size + 1 + 1, 0, none⟩) (by simp; omega) _
set_option maxHeartbeats 8000000 in
set_option maxRecDepth 100000 in
theorem pack_Take.calls (A0 : Option Addr) (c0 : Nat) (l0 : List Int) (a1 : Int) (r1 : Int) (r2 : List Int) (r3 : Int) (w : World) (hr0 : Kd.C (Kd.int .u8) w A0 l0.length l0) (hc0 : l0.length ≤ c0) (h : pack_Take.f l0 a1 = some (r1, r2, r3)) :
  Calls Try.prog 74 #[.slice A0 l0.length c0, .int .i64 a1] w fun e w' => ∃ v1_ : Value, e = .returned (.tuple #[.int .i64 r1, v1_, .int .i64 r3]) ∧ Kd.R (Kd.int .u8) 5 w' w.heap.size (fun _ => True) v1_ r2 ∧ Below w.heap.size w w' := by
 unfold pack_Take.f at h
 by_cases hl : l0.length < 140737488355328
 ·rw [if_pos hl] at h
  have h := Option.some.inj h
  have HL := Aside0.mk hl
  have HR0 := Aside0.mk hr0
  have HC0 := Aside0.mk hc0
  have HL8 := Aside0.mk (show (l0.length : Int) * 8 ≤ 9223372036854775807 by omega)
  clear hr0 hc0 hl
  have hmf : ∀ (fn : Fn) (first cap : Array Value) (W : World), (Instr.makeFunc fn first cap).run Try.prog W = .ok (.func fn first cap) W := fun _ _ _ _ => rfl
  by_cases hm : okSize a1 = true ∧ a1 ≤ (l0.length : Int)
  ·have hz : (r1, r2, r3) = (tkl 0 (l0.take a1.toNat), l0.drop a1.toNat, 0) := by rw [← h]; simp [pkTake, hm]
   simp only [Prod.mk.injEq] at hz
   obtain ⟨rfl, rfl, rfl⟩ := hz
   have HK := Aside0.mk hm.1
   have HM := Aside0.mk hm.2
   clear hm h
   obtain ⟨z, hz⟩ : ∃ z : List Int, z = l0.drop a1.toNat := ⟨_, rfl⟩
   have HZ := Aside0.mk hz
   have HZL := Aside0.mk (show z.length ≤ l0.length by rw [hz, List.length_drop]; omega)
   have hcf : slices_Clone_byte_byte.f z = some z := by unfold slices_Clone_byte_byte.f; rw [if_pos (by have := HL.out; have := HZL.out; omega)]
   have HCF := Aside0.mk hcf
   rw [← hz]
   clear hz hcf
   go_enter_defers Try.func74, Try.ntmps74
   go_wp2_with (first | (go_at_call 85; (with_reducible refine (pack_take.ok A0 c0 l0 a1 HL8.out HK.out HM.out _ ?s1 HC0.out).mono ?_); (case s1 => repeat (first | exact HR0.out | (with_reducible refine Kd.C_alloc ?_ _))); rintro e w1 ⟨A1, c1, rfl, hc1, hr1, ⟨nd, rfl⟩⟩; rw [← HZ.out] at hr1 hc1; rw [← HZ.out]; have HC1 := Aside0.mk hc1; have HR1 := Aside0.mk hr1; clear hc1 hr1))
   generalize hW5 : World.setCell _ _ _ = W5
   have hb5 : Below w.heap.size w W5 := by
    rw [← hW5]
    exact ((pw_below_drewN (below_alloc (below_alloc (below_alloc (Below.refl _ _) _) _) _) _).setCell (p := ⟨w.heap.size, 0, none⟩) (Nat.le_refl _) _).setCell (p := ⟨w.heap.size + 1, 0, none⟩) (by simp) _
   have z5 : w.heap.size + 3 ≤ W5.heap.size := by rw [← hW5]; simp
   have c4 : W5.cell? ⟨w.heap.size, 0, none⟩ = some (.int .i64 (tkl 0 (l0.take a1.toNat))) := by
    rw [← hW5, World.cell?_setCell_other _ _ _ _ (by simp)]
    exact World.cell?_setCell_same _ _ _ (t3_a _ _ _ _ _ _ _ _)
   have c5 : W5.cell? ⟨w.heap.size + 1, 0, none⟩ = some (.slice A1 z.length c1) := by
    rw [← hW5]
    exact World.cell?_setCell_same _ _ _ (by rw [World.cell?_setCell_other _ _ _ _ (by simp)]; exact t3_b _ _ _ _ _ _ _ _)
   have c6 : W5.cell? ⟨w.heap.size + 1 + 1, 0, none⟩ = some (.int .i64 0) := by
    rw [← hW5, World.cell?_setCell_other _ _ _ _ (by simp), World.cell?_setCell_other _ _ _ _ (by simp)]; exact t3_c _ _ _ _ _ _ _ _
   have f4 : W5.frozen? ⟨w.heap.size, 0, none⟩ = false := by rw [← hW5, World.frozen?_setCell, World.frozen?_setCell]; exact s3_a _ _ _ _ _ _ _ _
   have f5 : W5.frozen? ⟨w.heap.size + 1, 0, none⟩ = false := by rw [← hW5, World.frozen?_setCell, World.frozen?_setCell]; exact s3_b _ _ _ _ _ _ _ _
   have f6 : W5.frozen? ⟨w.heap.size + 1 + 1, 0, none⟩ = false := by rw [← hW5, World.frozen?_setCell, World.frozen?_setCell]; exact s3_c _ _ _ _ _ _ _ _
   have HR5 := Aside0.mk (HR1.out W5 (Kd.C_below HR0.out hb5))
   have HB5 := Aside0.mk hb5
   have HZ5 := Aside0.mk z5
   clear hW5 hb5 z5
   go_region_with (first | (go_at_call 25; (with_reducible refine (slices_Clone_byte_byte.calls A1 c1 z z _ ?s1 HC1.out HCF.out).mono ?_); (case s1 => repeat (first | exact HR5.out | (with_reducible refine Kd.C_drewN ?_ _) | (with_reducible refine Kd.C_drew ?_))); rintro e w3 ⟨v3, rfl, hR3, hb3⟩; obtain ⟨Ao3, co3, eo3⟩ := Kd.R_slice hR3; subst eo3; have z3 := HZ5.out; have d4 := (hb3.cell (p := ⟨w.heap.size, 0, none⟩) (show w.heap.size < _ by simp; omega)).trans (show _ = _ from c4); have g4 := (hb3.frozen (p := ⟨w.heap.size, 0, none⟩) (show w.heap.size < _ by simp; omega)).trans (show _ = _ from f4); have d5 := (hb3.cell (p := ⟨w.heap.size + 1, 0, none⟩) (show w.heap.size + 1 < _ by simp; omega)).trans (show _ = _ from c5); have g5 := (hb3.frozen (p := ⟨w.heap.size + 1, 0, none⟩) (show w.heap.size + 1 < _ by simp; omega)).trans (show _ = _ from f5); have d6 := (hb3.cell (p := ⟨w.heap.size + 1 + 1, 0, none⟩) (show w.heap.size + 1 + 1 < _ by simp; omega)).trans (show _ = _ from c6); have g6 := (hb3.frozen (p := ⟨w.heap.size + 1 + 1, 0, none⟩) (show w.heap.size + 1 + 1 < _ by simp; omega)).trans (show _ = _ from f6); have HR3 := Aside0.mk hR3; have HB3 := Aside0.mk hb3; clear hR3 hb3 z3))
   all_goals
    go_wp2
    simp only [bodyPostD]
    refine leaves_cons (f := 67) (args := #[.pointer (some ⟨w.heap.size + 1 + 1, 0, none⟩), .func (Fn.func 84) #[] #[.pointer (some ⟨w.heap.size, 0, none⟩), .pointer (some ⟨w.heap.size + 1, 0, none⟩)]]) (by simp) (by simp [go_sem]) ?_
    refine (pack_told.idle _ _ _).mono ?_
    rintro e u' w' ⟨rfl, rfl, rfl⟩
    have hs : settle .returning = .returning := rfl
    simp only [hs]
    refine ⟨.tuple #[.int .i64 (tkl 0 (l0.take a1.toNat)), .slice Ao3 z.length co3, .int .i64 0], ?_, _, rfl, ?_, ?_⟩
    ·refine res_three _ _ _ _ _ _ _ _ rfl rfl rfl ?_ ?_ ?_
     ·rw [World.cell?_setCell_other _ _ _ _ (by simp), World.cell?_setCell_other _ _ _ _ (by simp)]
      exact World.cell?_setCell_same _ _ _ d4
     ·rw [World.cell?_setCell_other _ _ _ _ (by simp)]
      exact World.cell?_setCell_same _ _ _ (by rw [World.cell?_setCell_other _ _ _ _ (by simp)]; exact d5)
     ·exact World.cell?_setCell_same _ _ _ (by rw [World.cell?_setCell_other _ _ _ _ (by simp), World.cell?_setCell_other _ _ _ _ (by simp)]; exact d6)
    ·have r1 := Kd.R_bound HR3.out
     have hz5 := HZ5.out
     exact Kd.R_mono (Kd.R_lower (Kd.R_far (Kd.R_far (Kd.R_far r1 (fun k hk => by have := hk.2.1; simp at this; simp; omega) _) (fun k hk => by have := hk.2.1; simp at this; simp; omega) _) (fun k hk => by have := hk.2.1; simp at this; simp; omega) _) (by simp; omega)) (fun _ _ => trivial)
    ·have hz5 := HZ5.out
     have hb : Below w.heap.size w w3 := HB5.out.trans ((Below.drew (Below.refl _ _)).trans (HB3.out.mono (by simp; omega)))
     exact ((hb.setCell (p := ⟨w.heap.size, 0, none⟩) (Nat.le_refl _) _).setCell (p := ⟨w.heap.size + 1, 0, none⟩) (by simp) _).setCell (p := ⟨w.heap.size + 1 + 1, 0, none⟩) (by simp; omega) _
  ·have hm' : okSize a1 = false ∨ (l0.length : Int) < a1 := by
    by_cases hk : okSize a1 = true
    ·right; by_cases h2 : a1 ≤ (l0.length : Int)
     ·exact absurd ⟨hk, h2⟩ hm
     ·omega
    ·left; simpa using hk
   have hz : (r1, r2, r3) = (0, [], 40) := by rw [← h]; unfold pkTake; rw [if_neg hm]
   simp only [Prod.mk.injEq] at hz
   obtain ⟨rfl, rfl, rfl⟩ := hz
   have HM := Aside0.mk hm'
   clear hm hm' h
   go_enter_defers Try.func74, Try.ntmps74
   go_wp2_with (first | (go_at_call 85; (with_reducible refine (pack_take.no A0 c0 l0 a1 HL8.out HM.out _).mono ?_); rintro e w1 ⟨rfl, rfl⟩))
   simp only [bodyPostD]
   exact take_tail_no w _ _ _ _ (t3_a _ _ _ _ _ _ _ 0) (s3_a _ _ _ _ _ _ _ 0) (t3_b _ _ _ _ _ _ _ 0) (s3_b _ _ _ _ _ _ _ 0) (t3_c _ _ _ _ _ _ _ 0) (s3_c _ _ _ _ _ _ _ 0) (by simp) (below_alloc (below_alloc (below_alloc (Below.refl _ _) _) _) _) rfl rfl rfl
 ·rw [if_neg hl] at h; cases h
def pkTL (size : Int) : Nat → List Int → Option (List Int × List Int)
 | 0, rest => some ([], rest)
 | m + 1, rest => if size ≤ (rest.length : Int) then (pkTL size m (rest.drop size.toNat)).map (fun p => (tkl 0 (rest.take size.toNat) :: p.1, p.2)) else none
def pkTakeList (l0 : List Int) (a1 : Int) : List Int × List Int × Int :=
 if okSize a1 = true ∧ 1 ≤ l0.length then (match pkTL a1 (tkl 0 (l0.take 1)).toNat (l0.drop 1) with | some p => (p.1, p.2, 0) | none => ([], [], 40)) else ([], [], 40)
def pack_TakeList.f (l0 : List Int) (a1 : Int) : Option (List Int × List Int × Int) := if l0.length < 140737488355328 then (if 0 ≤ tkl 0 (l0.take 1) ∧ tkl 0 (l0.take 1) ≤ 255 then some (pkTakeList l0 a1) else none) else none
theorem tl_nil_ok (p q : Addr) (x y : Value) (w : World) (hpq : p ≠ q) (hc : w.cell? p = some x) (hf : w.frozen? p = false) (hd : w.cell? q = some y) (hg : w.frozen? q = false) :
  Calls Try.prog 87 #[.pointer (some p), .pointer (some q)] w fun e w' => e = .returned (.tuple #[]) ∧ (w.setCell p (.slice none 0 0)).setCell q (.slice none 0 0) = w' := by
 have hd2 : (w.setCell p (.slice none 0 0)).cell? q = some y := by rw [World.cell?_setCell_other _ _ _ _ hpq]; exact hd
 have hg2 : (w.setCell p (.slice none 0 0)).frozen? q = false := by rw [World.frozen?_setCell]; exact hg
 go_enter Try.func87, Try.ntmps87
 go_wp2
 go_end0
 exact ⟨rfl, rfl⟩
theorem tl_three (tm : Array Value) (W : World) (a b c : Addr) (x y z : Value) (t4 : tm[4]?.getD undef = .pointer (some a)) (t5 : tm[5]?.getD undef = .pointer (some b)) (t6 : tm[6]?.getD undef = .pointer (some c))
  (k4 : W.cell? a = some x) (k5 : W.cell? b = some y) (k6 : W.cell? c = some z) :
  (results Try.f86 tm).run Try.prog W = .ok (.tuple #[x, y, z]) W := by
 simp [results, Try.results86, go_sem, t4, t5, t6, k4, k5, k6]
theorem tl_tail_no (w w1 : World) (x y : Value) (tm : Array Value) (c4 : w1.cell? ⟨w.heap.size, 0, none⟩ = some x) (f4 : w1.frozen? ⟨w.heap.size, 0, none⟩ = false)
  (c5 : w1.cell? ⟨w.heap.size + 1, 0, none⟩ = some y) (f5 : w1.frozen? ⟨w.heap.size + 1, 0, none⟩ = false)
  (c6 : w1.cell? ⟨w.heap.size + 1 + 1, 0, none⟩ = some (.int .i64 0)) (f6 : w1.frozen? ⟨w.heap.size + 1 + 1, 0, none⟩ = false) (z1 : w.heap.size + 3 ≤ w1.heap.size) (hb : Below w.heap.size w w1)
  (t4 : tm[4]?.getD undef = .pointer (some ⟨w.heap.size, 0, none⟩)) (t5 : tm[5]?.getD undef = .pointer (some ⟨w.heap.size + 1, 0, none⟩)) (t6 : tm[6]?.getD undef = .pointer (some ⟨w.heap.size + 1 + 1, 0, none⟩)) :
  Leaves Try.prog Try.f86 tm (fun e w' => ∃ v0_ v1_ : Value, e = .returned (.tuple #[v0_, v1_, .int .i64 40]) ∧ Kd.R (Kd.int .i64) 3 w' w.heap.size (fun _ => True) v0_ [] ∧ Kd.R (Kd.int .u8) 5 w' w.heap.size (fun _ => True) v1_ [] ∧ Below w.heap.size w w')
   [{ target := Target.fn (Fn.func 67) #[], args := #[.pointer (some ⟨w.heap.size + 1 + 1, 0, none⟩), .func (Fn.func 87) #[] #[.pointer (some ⟨w.heap.size, 0, none⟩), .pointer (some ⟨w.heap.size + 1, 0, none⟩)]] }] (.panicking [wrongE]) w1 := by
 have h1 : w.heap.size < w1.heap.size := by omega
 have h2 : w.heap.size + 1 < w1.heap.size := by omega
 have h3 : w.heap.size + 1 + 1 < w1.heap.size := by omega
 refine leaves_cons (f := 67) (args := #[.pointer (some ⟨w.heap.size + 1 + 1, 0, none⟩), .func (Fn.func 87) #[] #[.pointer (some ⟨w.heap.size, 0, none⟩), .pointer (some ⟨w.heap.size + 1, 0, none⟩)]]) (by simp) (by simp [go_sem]) ?_
 refine (pack_told.wrong ⟨w.heap.size + 1 + 1, 0, none⟩ 87 #[.pointer (some ⟨w.heap.size, 0, none⟩), .pointer (some ⟨w.heap.size + 1, 0, none⟩)] (.int .i64 0) [] w1 (fun w2 => ((w1.alloc (.cells #[] 110)).setCell ⟨w.heap.size, 0, none⟩ (.slice none 0 0)).setCell ⟨w.heap.size + 1, 0, none⟩ (.slice none 0 0) = w2) (fun W => by simp [go_sem]) ?_).mono ?_
 ·refine (tl_nil_ok ⟨w.heap.size, 0, none⟩ ⟨w.heap.size + 1, 0, none⟩ x y _ (by simp) (by rw [World.cell?_alloc_lt _ _ _ h1]; exact c4) (by rw [World.frozen?_alloc_old _ _ _ (Nat.ne_of_lt h1)]; exact f4)
   (by rw [World.cell?_alloc_lt _ _ _ h2]; exact c5) (by rw [World.frozen?_alloc_old _ _ _ (Nat.ne_of_lt h2)]; exact f5)).mono ?_
  rintro e w' ⟨rfl, rfl⟩
  refine ⟨rfl, rfl, ?_, ?_⟩
  ·rw [World.cell?_setCell_other _ _ _ _ (by simp), World.cell?_setCell_other _ _ _ _ (by simp), World.cell?_alloc_lt _ _ _ h3]; exact c6
  ·rw [World.frozen?_setCell, World.frozen?_setCell, World.frozen?_alloc_old _ _ _ (Nat.ne_of_lt h3)]; exact f6
 ·rintro e u' w' ⟨rfl, rfl, w2, rfl, rfl⟩
  have hs : settle (.panicking [wrongR]) = .returning := rfl
  simp only [hs]
  refine ⟨.tuple #[.slice none 0 0, .slice none 0 0, .int .i64 40], ?_, .slice none 0 0, .slice none 0 0, rfl, Kd.R_nil _ _ _ _ _, Kd.R_nil _ _ _ _ _, ?_⟩
  ·refine tl_three _ _ _ _ _ _ _ _ t4 t5 t6 ?_ ?_ ?_
   ·rw [World.cell?_setCell_other _ _ _ _ (by simp), World.cell?_setCell_other _ _ _ _ (by simp)]
    exact World.cell?_setCell_same _ _ _ (u := x) (by rw [World.cell?_alloc_lt _ _ _ h1]; exact c4)
   ·rw [World.cell?_setCell_other _ _ _ _ (by simp)]
    exact World.cell?_setCell_same _ _ _ (u := y) (by rw [World.cell?_setCell_other _ _ _ _ (by simp), World.cell?_alloc_lt _ _ _ h2]; exact c5)
   ·exact World.cell?_setCell_same _ _ _ (u := .int .i64 0) (by rw [World.cell?_setCell_other _ _ _ _ (by simp), World.cell?_setCell_other _ _ _ _ (by simp), World.cell?_alloc_lt _ _ _ h3]; exact c6)
  ·exact (((hb.alloc (by omega) _).setCell (p := ⟨w.heap.size, 0, none⟩) (Nat.le_refl _) _).setCell (p := ⟨w.heap.size + 1, 0, none⟩) (by simp) _).setCell (p := ⟨w.heap.size + 1 + 1, 0, none⟩) (by simp; omega) _
def TLInv (w : World) (A0 : Option Addr) (l0 : List Int) (A4 : Option Addr) (c4 : Nat) (xs : List Int) (A5 : Option Addr) (c5 : Nat) (rest : List Int) (W : World) : Prop :=
 W.cell? ⟨w.heap.size, 0, none⟩ = some (.slice A4 xs.length c4) ∧ W.frozen? ⟨w.heap.size, 0, none⟩ = false ∧ W.cell? ⟨w.heap.size + 1, 0, none⟩ = some (.slice A5 rest.length c5) ∧ W.frozen? ⟨w.heap.size + 1, 0, none⟩ = false ∧
 W.cell? ⟨w.heap.size + 1 + 1, 0, none⟩ = some (.int .i64 0) ∧ W.frozen? ⟨w.heap.size + 1 + 1, 0, none⟩ = false ∧
 Kd.R (Kd.int .i64) 3 W w.heap.size (fun k => w.heap.size + 3 ≤ k) (.slice A4 xs.length c4) xs ∧ (∀ W', Kd.C (Kd.int .u8) W' A0 l0.length l0 → Kd.C (Kd.int .u8) W' A5 rest.length rest) ∧ rest.length ≤ c5 ∧ rest.length ≤ l0.length ∧
 Below w.heap.size w W ∧ w.heap.size + 3 ≤ W.heap.size
theorem TLInv.mid {w : World} {A0 A4 A5 A6 : Option Addr} {l0 xs rest z2 : List Int} {c4 c5 c6 nd : Nat} {W0 w7 : World} (h : TLInv w A0 l0 A4 c4 xs A5 c5 rest W0)
  (hg : ((W0.drewN nd).setCell ⟨w.heap.size + 1, 0, none⟩ (.slice A6 z2.length c6)).grownBy w7 (Value.slice A4 xs.length c4).ownBlock) :
  w7.cell? ⟨w.heap.size, 0, none⟩ = some (.slice A4 xs.length c4) ∧ w7.frozen? ⟨w.heap.size, 0, none⟩ = false ∧ w7.cell? ⟨w.heap.size + 1, 0, none⟩ = some (.slice A6 z2.length c6) ∧ w7.frozen? ⟨w.heap.size + 1, 0, none⟩ = false ∧
  w7.cell? ⟨w.heap.size + 1 + 1, 0, none⟩ = some (.int .i64 0) ∧ w7.frozen? ⟨w.heap.size + 1 + 1, 0, none⟩ = false := by
 obtain ⟨h1, h2, h3, h4, h5, h6, h7, h8, h9, h10, h11, h12⟩ := h
 have hne : ∀ j : Nat, j < w.heap.size + 3 → some j ≠ (Value.slice A4 xs.length c4).ownBlock := fun j hj he => by have := h7.1 j he.symm; omega
 have hs : ((W0.drewN nd).setCell ⟨w.heap.size + 1, 0, none⟩ (.slice A6 z2.length c6)).heap.size = W0.heap.size := by simp
 have b0 := hg.block w.heap.size (by rw [hs]; omega) (hne _ (by omega))
 have b1 := hg.block (w.heap.size + 1) (by rw [hs]; omega) (hne _ (by omega))
 have b2 := hg.block (w.heap.size + 1 + 1) (by rw [hs]; omega) (hne _ (by omega))
 refine ⟨(World.cell?_of_block b0).trans ?_, (World.frozen?_of_block b0).trans ?_, (World.cell?_of_block b1).trans ?_, (World.frozen?_of_block b1).trans ?_, (World.cell?_of_block b2).trans ?_, (World.frozen?_of_block b2).trans ?_⟩
 ·rw [World.cell?_setCell_other _ _ _ _ (by simp)]; exact h1
 ·rw [World.frozen?_setCell]; exact h2
 ·exact World.cell?_setCell_same _ _ _ (u := .slice A5 rest.length c5) h3
 ·rw [World.frozen?_setCell]; exact h4
 ·rw [World.cell?_setCell_other _ _ _ _ (by simp)]; exact h5
 ·rw [World.frozen?_setCell]; exact h6
theorem TLInv.next {w : World} {A0 A4 A5 A6 A7 : Option Addr} {l0 xs rest z2 : List Int} {n : Int} {c4 c5 c6 c7 nd : Nat} {W0 w7 : World} (h : TLInv w A0 l0 A4 c4 xs A5 c5 rest W0)
  (hg : ((W0.drewN nd).setCell ⟨w.heap.size + 1, 0, none⟩ (.slice A6 z2.length c6)).grownBy w7 (Value.slice A4 xs.length c4).ownBlock) (hb : Below w.heap.size w w7)
  (ho : Kd.R (Kd.int .i64) 3 w7 w.heap.size (fun k => w.heap.size + 3 ≤ k) (.slice A7 (xs ++ [n]).length c7) (xs ++ [n]))
  (hr : ∀ W', Kd.C (Kd.int .u8) W' A5 rest.length rest → Kd.C (Kd.int .u8) W' A6 z2.length z2) (hc : z2.length ≤ c6) (hl : z2.length ≤ rest.length) :
  TLInv w A0 l0 A7 c7 (xs ++ [n]) A6 c6 z2 (w7.setCell ⟨w.heap.size, 0, none⟩ (.slice A7 (xs ++ [n]).length c7)) := by
 obtain ⟨m1, m2, m3, m4, m5, m6⟩ := TLInv.mid h hg
 obtain ⟨h1, h2, h3, h4, h5, h6, h7, h8, h9, h10, h11, h12⟩ := h
 have hsz := hg.size
 simp at hsz
 refine ⟨World.cell?_setCell_same _ _ _ m1, ?_, ?_, ?_, ?_, ?_, Kd.R_far ho (fun k hk => by simp; omega) _, fun W' hW => hr W' (h8 W' hW), hc, by omega, hb.setCell (p := ⟨w.heap.size, 0, none⟩) (Nat.le_refl _) _, by simp; omega⟩
 ·rw [World.frozen?_setCell]; exact m2
 ·rw [World.cell?_setCell_other _ _ _ _ (by simp)]; exact m3
 ·rw [World.frozen?_setCell]; exact m4
 ·rw [World.cell?_setCell_other _ _ _ _ (by simp)]; exact m5
 ·rw [World.frozen?_setCell]; exact m6
def tlRes (xs : List Int) (o : Option (List Int × List Int)) : List Int × List Int × Int := match o with | some p => (xs ++ p.1, p.2, 0) | none => ([], [], 40)
theorem tlRes_step (a1 : Int) (xs rest : List Int) (m : Nat) (h : a1 ≤ (rest.length : Int)) : tlRes xs (pkTL a1 (m + 1) rest) = tlRes (xs ++ [tkl 0 (rest.take a1.toNat)]) (pkTL a1 m (rest.drop a1.toNat)) := by
 simp only [pkTL, if_pos h]
 cases pkTL a1 m (rest.drop a1.toNat) <;> simp [tlRes]
set_option maxHeartbeats 8000000 in
set_option maxRecDepth 100000 in
theorem pack_TakeList.calls (A0 : Option Addr) (c0 : Nat) (l0 : List Int) (a1 : Int) (r1 : List Int) (r2 : List Int) (r3 : Int) (w : World) (hr0 : Kd.C (Kd.int .u8) w A0 l0.length l0) (hc0 : l0.length ≤ c0) (h : pack_TakeList.f l0 a1 = some (r1, r2, r3)) :
  Calls Try.prog 86 #[.slice A0 l0.length c0, .int .i64 a1] w fun e w' => ∃ v0_ v1_ : Value, e = .returned (.tuple #[v0_, v1_, .int .i64 r3]) ∧ Kd.R (Kd.int .i64) 3 w' w.heap.size (fun _ => True) v0_ r1 ∧ Kd.R (Kd.int .u8) 5 w' w.heap.size (fun _ => True) v1_ r2 ∧ Below w.heap.size w w' := by
 unfold pack_TakeList.f at h
 by_cases hl : l0.length < 140737488355328
 ·rw [if_pos hl] at h
  by_cases hmany : 0 ≤ tkl 0 (l0.take 1) ∧ tkl 0 (l0.take 1) ≤ 255
  ·rw [if_pos hmany] at h
   have h := Option.some.inj h
   have HL := Aside0.mk hl
   have HR0 := Aside0.mk hr0
   have HC0 := Aside0.mk hc0
   have HL8 := Aside0.mk (show (l0.length : Int) * 8 ≤ 9223372036854775807 by omega)
   obtain ⟨many, hM⟩ : ∃ many : Nat, tkl 0 (l0.take 1) = (many : Int) := ⟨(tkl 0 (l0.take 1)).toNat, by omega⟩
   have HMANY := Aside0.mk (show many ≤ 255 by omega)
   have HTK := Aside0.mk hM
   have HH := Aside0.mk h
   clear hr0 hc0 hl hM hmany h
   have hmf : ∀ (fn : Fn) (first cap : Array Value) (W : World), (Instr.makeFunc fn first cap).run Try.prog W = .ok (.func fn first cap) W := fun _ _ _ _ => rfl
   by_cases hk : okSize a1 = true
   ·have HK := Aside0.mk hk
    by_cases h1 : 1 ≤ l0.length
    ·have HK1 := Aside0.mk (show okSize 1 = true from rfl)
     have HM := Aside0.mk (show (1 : Int) ≤ (l0.length : Int) by omega)
     obtain ⟨z, hz⟩ : ∃ z : List Int, z = l0.drop 1 := ⟨_, rfl⟩
     have HZ := Aside0.mk hz
     have HZL := Aside0.mk (show z.length ≤ l0.length by rw [hz, List.length_drop]; omega)
     have HRES := Aside0.mk (show tlRes [] (pkTL a1 many z) = (r1, r2, r3) by
      rw [← HH.out, pkTakeList, if_pos ⟨hk, h1⟩, HTK.out, hz, Int.toNat_natCast]; cases pkTL a1 many (l0.drop 1) <;> simp [tlRes])
     clear hz hk h1 HH
     go_enter_defers Try.func86, Try.ntmps86
     go_wp2_with (first | (go_at_call 69; (with_reducible refine (pack_bits.ok a1 HK.out _).mono ?_); rintro e w' ⟨rfl, rfl⟩) | (go_at_call 85; (with_reducible refine (pack_take.ok A0 c0 l0 1 HL8.out HK1.out HM.out _ ?s1 HC0.out).mono ?_); (case s1 => repeat (first | exact HR0.out | (with_reducible refine Kd.C_alloc ?_ _))); rintro e w1 ⟨A1, c1, rfl, hc1, hr1, ⟨nd, rfl⟩⟩; (try simp only [Int.reduceToNat] at hr1 hc1 ⊢); rw [← HZ.out] at hr1 hc1; rw [← HZ.out, HTK.out]; have HC1 := Aside0.mk hc1; have HR1 := Aside0.mk hr1; clear hc1 hr1))
     generalize hW6 : World.setCell _ _ _ = W6
     have hI : TLInv w A0 l0 none 0 [] A1 c1 z W6 := by
      have hb : Below w.heap.size w ((((w.alloc (.cells #[.slice none 0 0] 24)).alloc (.cells #[.slice none 0 0] 31)).alloc (.cells #[.int .i64 0] 34)).drewN nd) := pw_below_drewN (below_alloc (below_alloc (below_alloc (Below.refl _ _) _) _) _) _
      rw [← hW6]
      refine ⟨?_, ?_, World.cell?_setCell_same _ _ _ (t3_b _ _ _ _ _ _ _ _), ?_, ?_, ?_, Kd.R_nil _ _ _ _ _, HR1.out, HC1.out, HZL.out, hb.setCell (p := ⟨w.heap.size + 1, 0, none⟩) (by simp) _, by simp⟩
      ·rw [World.cell?_setCell_other _ _ _ _ (by simp)]; exact t3_a _ _ _ _ _ _ _ _
      ·rw [World.frozen?_setCell]; exact s3_a _ _ _ _ _ _ _ _
      ·rw [World.frozen?_setCell]; exact s3_b _ _ _ _ _ _ _ _
      ·rw [World.cell?_setCell_other _ _ _ _ (by simp)]; exact t3_c _ _ _ _ _ _ _ _
      ·rw [World.frozen?_setCell]; exact s3_c _ _ _ _ _ _ _ _
     have HI := Aside0.mk hI
     clear hW6 hI
     go_loopg [18] (many + 1) (fun kq v18 w' => ∃ (i : Nat) (A4 : Option Addr) (c4 : Nat) (xs : List Int) (A5 : Option Addr) (c5 : Nat) (rest : List Int), v18 = .int .i64 (i : Int) ∧ Aside0 (i ≤ many ∧ many - i < kq ∧ xs.length = i ∧ tlRes xs (pkTL a1 (many - i) rest) = (r1, r2, r3)) ∧ Aside0 (TLInv w A0 l0 A4 c4 xs A5 c5 rest w'))
     case atStart => exact ⟨0, none, 0, [], A1, c1, z, rfl, ⟨by omega, by omega, rfl, HRES.out⟩, HI⟩
     case round =>
      obtain ⟨i, A4, c4, xs, A5, c5, rest, rfl, HA, HJ⟩ := hrel
      obtain ⟨hi1, hi2, hi3, hi4⟩ := HA.out
      obtain ⟨k4, f4, k5, f5, k6, f6, hRx, hRr, hcr, hlr, hBi, hSi⟩ := HJ.out
      have HRX := Aside0.mk hRx
      have HRR := Aside0.mk hRr
      have HCR := Aside0.mk hcr
      have HLR := Aside0.mk hlr
      have HBI := Aside0.mk hBi
      have HSI := Aside0.mk hSi
      by_cases hlt : i < many
      ·have q0 : (i : Int) < (many : Int) := by omega
       have hb0 : decide ((i : Int) < (many : Int)) = true := decide_eq_true q0
       have hb1 : decide (i < many) = true := decide_eq_true hlt
       have HLT := Aside0.mk hlt
       obtain ⟨m, hm⟩ : ∃ m, many - i = m + 1 := ⟨many - i - 1, by omega⟩
       rw [hm] at hi4
       have HMI := Aside0.mk (show many - (i + 1) = m by omega)
       have HR5 := Aside0.mk (hRr _ (Kd.C_below HR0.out hBi))
       have HL5 := Aside0.mk (show (rest.length : Int) * 8 ≤ 9223372036854775807 by have := HL.out; omega)
       by_cases hfit : a1 ≤ (rest.length : Int)
       ·rw [tlRes_step a1 xs rest m hfit] at hi4
        have HI4 := Aside0.mk hi4
        have HFIT := Aside0.mk hfit
        obtain ⟨n, hn⟩ : ∃ n, n = tkl 0 (rest.take a1.toNat) := ⟨_, rfl⟩
        obtain ⟨z2, hz2⟩ : ∃ z2, z2 = rest.drop a1.toNat := ⟨_, rfl⟩
        have HN := Aside0.mk hn
        have HZ2 := Aside0.mk hz2
        clear q0 hm hi1 hi2 hi3 hi4 hRx hRr hcr hlr hBi hSi hfit hn hz2
        go_wp2_with (first | (go_at_call 85; (with_reducible refine (pack_take.ok A5 c5 rest a1 HL5.out HK.out HFIT.out _ HR5.out HCR.out).mono ?_); rintro e w6 ⟨A6, c6, rfl, hc6, hr6, ⟨nd2, rfl⟩⟩; rw [← HZ2.out] at hr6 hc6; rw [← HN.out, ← HZ2.out]; have HC6 := Aside0.mk hc6; have HR6 := Aside0.mk hr6; clear hc6 hr6) | ((with_reducible refine gate_builtin (b := .append) (xs := #[.tmp 26, .tmp 28]) rfl ?_); at_builtin; refine Kd.R_append (Kd.int .i64) (w0 := w) w.heap.size rfl (.tmp 26) (.tmp 28) 24 3 (.int .i64 0) 8 rfl Try.underlying24 info3 rfl (by decide) (by omega) (.slice A4 xs.length c4) xs n [.int .i64 n] (fun k => w.heap.size + 3 ≤ k) (fun _ => False) rfl (by go_simp; first | done | simp) ?aP (fun _ hk => hk.elim) ?aF ?aO ?aB ?aS ?aL ?_; (case aP => exact rfl); (case aB => exact (pw_below_drewN HBI.out _).setCell (p := ⟨w.heap.size + 1, 0, none⟩) (by simp) _); (case aF => exact (fun k hk => by have := HSI.out; simp at hk; omega)); (case aO => exact Kd.R_far (Kd.R_drewN HRX.out _) (fun k hk => by simp; omega) _); (case aS => have := HSI.out; simp; omega); (case aL => have := HA.out.2.2.1; have := HMANY.out; have := HLT.out; omega); intro v7 w7 ho hb hg hat; clear hat; obtain ⟨Ao7, co7, eo7⟩ := Kd.R_slice ho; subst eo7; obtain ⟨m4, g4, m5, g5, m6, g6⟩ := TLInv.mid HJ.out hg; have HO7 := Aside0.mk ho; have HB7 := Aside0.mk hb; have HG7 := Aside0.mk hg; clear ho hb hg))
        go_roundg (gk - 1)
        case measure => obtain ⟨hi1, hi2, hi3, hi4⟩ := HA.out; omega
        case rel =>
         obtain ⟨hi1, hi2, hi3, hi4⟩ := HA.out
         have hlt := HLT.out
         have g1 : i + 1 ≤ many := by omega
         have g2 : many - (i + 1) < gk - 1 := by omega
         have g3 : (xs ++ [n]).length = i + 1 := by simp; exact hi3
         have hmy := HMANY.out
         have hw : wrap64 ((i : Int) + 1) = ((i + 1 : Nat) : Int) := wof (by omega) (by omega)
         refine ⟨i + 1, Ao7, co7, xs ++ [n], A6, c6, z2, by rw [hw], ⟨g1, g2, g3, by rw [HMI.out, HN.out, HZ2.out]; exact HI4.out⟩, ⟨by have hx := TLInv.next HJ.out HG7.out HB7.out HO7.out HR6.out HC6.out (by rw [HZ2.out, List.length_drop]; omega); rw [List.length_append, List.length_singleton] at hx; exact hx⟩⟩
       ·have hz : (r1, r2, r3) = ([], [], 40) := by rw [← hi4]; simp [pkTL, hfit, tlRes]
        simp only [Prod.mk.injEq] at hz
        obtain ⟨rfl, rfl, rfl⟩ := hz
        have HNO := Aside0.mk (show okSize a1 = false ∨ (rest.length : Int) < a1 from .inr (by omega))
        clear q0 hm hi1 hi2 hi3 hi4 hRx hRr hcr hlr hBi hSi hfit HRES
        go_wp2_with (first | (go_at_call 85; (with_reducible refine (pack_take.no A5 c5 rest a1 HL5.out HNO.out _).mono ?_); rintro e w6 ⟨rfl, rfl⟩))
        simp only [Exit.then, Exit.inBlock, bodyPostD]
        exact tl_tail_no w _ _ _ _ k4 f4 k5 f5 k6 f6 HSI.out HBI.out rfl rfl rfl
      ·have hie : i = many := by omega
       subst hie
       have hb0 : decide ((i : Int) < (i : Int)) = false := decide_eq_false (by omega)
       have hb1 : decide (i < i) = false := decide_eq_false (by omega)
       have hz : (r1, r2, r3) = (xs, rest, 0) := by rw [← hi4, Nat.sub_self]; simp [pkTL, tlRes]
       simp only [Prod.mk.injEq] at hz
       obtain ⟨e1, e2, rfl⟩ := hz
       have E1 := Aside0.mk e1
       have E2 := Aside0.mk e2
       have hcf : slices_Clone_byte_byte.f rest = some rest := by unfold slices_Clone_byte_byte.f; rw [if_pos (by have := HL.out; omega)]
       have HCF := Aside0.mk hcf
       have HR5 := Aside0.mk (hRr _ (Kd.C_below HR0.out hBi))
       clear hi1 hi2 hi3 hi4 hRx hRr hcr hlr hBi hSi e1 e2 hcf HA HRES hlt
       go_wp2
       go_region_with (first | (go_at_call 25; (with_reducible refine (slices_Clone_byte_byte.calls A5 c5 rest rest _ ?s1 HCR.out HCF.out).mono ?_); (case s1 => repeat (first | exact HR5.out | (with_reducible refine Kd.C_drewN ?_ _) | (with_reducible refine Kd.C_drew ?_))); rintro e w3 ⟨v3, rfl, hR3, hb3⟩; obtain ⟨Ao3, co3, eo3⟩ := Kd.R_slice hR3; subst eo3; have z3 := HSI.out; have d4 := (hb3.cell (p := ⟨w.heap.size, 0, none⟩) (show w.heap.size < _ by simp; omega)).trans (show _ = _ from k4); have g4 := (hb3.frozen (p := ⟨w.heap.size, 0, none⟩) (show w.heap.size < _ by simp; omega)).trans (show _ = _ from f4); have d5 := (hb3.cell (p := ⟨w.heap.size + 1, 0, none⟩) (show w.heap.size + 1 < _ by simp; omega)).trans (show _ = _ from k5); have g5 := (hb3.frozen (p := ⟨w.heap.size + 1, 0, none⟩) (show w.heap.size + 1 < _ by simp; omega)).trans (show _ = _ from f5); have d6 := (hb3.cell (p := ⟨w.heap.size + 1 + 1, 0, none⟩) (show w.heap.size + 1 + 1 < _ by simp; omega)).trans (show _ = _ from k6); have g6 := (hb3.frozen (p := ⟨w.heap.size + 1 + 1, 0, none⟩) (show w.heap.size + 1 + 1 < _ by simp; omega)).trans (show _ = _ from f6); have HR3 := Aside0.mk hR3; have HB3 := Aside0.mk hb3; clear hR3 hb3 z3))
       all_goals
        go_wp2
        simp only [Exit.then, Exit.inBlock, bodyPostD]
        refine leaves_cons (f := 67) (args := #[.pointer (some ⟨w.heap.size + 1 + 1, 0, none⟩), .func (Fn.func 87) #[] #[.pointer (some ⟨w.heap.size, 0, none⟩), .pointer (some ⟨w.heap.size + 1, 0, none⟩)]]) (by simp) (by simp [go_sem]) ?_
        refine (pack_told.idle _ _ _).mono ?_
        rintro e u' w' ⟨rfl, rfl, rfl⟩
        have hs : settle .returning = .returning := rfl
        simp only [hs]
        rw [E1.out, E2.out]
        refine ⟨.tuple #[.slice A4 xs.length c4, .slice Ao3 rest.length co3, .int .i64 0], ?_, _, _, rfl, ?_, ?_, ?_⟩
        ·refine tl_three _ _ _ _ _ _ _ _ rfl rfl rfl ?_ ?_ ?_
         ·rw [World.cell?_setCell_other _ _ _ _ (by simp), World.cell?_setCell_other _ _ _ _ (by simp)]
          exact World.cell?_setCell_same _ _ _ d4
         ·rw [World.cell?_setCell_other _ _ _ _ (by simp)]
          exact World.cell?_setCell_same _ _ _ (by rw [World.cell?_setCell_other _ _ _ _ (by simp)]; exact d5)
         ·exact World.cell?_setCell_same _ _ _ (by rw [World.cell?_setCell_other _ _ _ _ (by simp), World.cell?_setCell_other _ _ _ _ (by simp)]; exact d6)
        ·have r1 := Kd.R_below (Kd.R_drew HRX.out) HB3.out
         exact Kd.R_mono (Kd.R_far (Kd.R_far (Kd.R_far r1 (fun k hk => by simp; omega) _) (fun k hk => by simp; omega) _) (fun k hk => by simp; omega) _) (fun _ _ => trivial)
        ·have r1 := Kd.R_bound HR3.out
         have hz5 := HSI.out
         exact Kd.R_mono (Kd.R_lower (Kd.R_far (Kd.R_far (Kd.R_far r1 (fun k hk => by have := hk.2.1; simp at this; simp; omega) _) (fun k hk => by have := hk.2.1; simp at this; simp; omega) _) (fun k hk => by have := hk.2.1; simp at this; simp; omega) _) (by simp; omega)) (fun _ _ => trivial)
        ·have hz5 := HSI.out
         have hb : Below w.heap.size w w3 := HBI.out.trans ((Below.drew (Below.refl _ _)).trans (HB3.out.mono (by simp; omega)))
         exact ((hb.setCell (p := ⟨w.heap.size, 0, none⟩) (Nat.le_refl _) _).setCell (p := ⟨w.heap.size + 1, 0, none⟩) (by simp) _).setCell (p := ⟨w.heap.size + 1 + 1, 0, none⟩) (by simp; omega) _
    ·have hz : (r1, r2, r3) = ([], [], 40) := by rw [← HH.out]; unfold pkTakeList; rw [if_neg (fun hx => h1 hx.2)]
     simp only [Prod.mk.injEq] at hz
     obtain ⟨rfl, rfl, rfl⟩ := hz
     have HM := Aside0.mk (show okSize 1 = false ∨ (l0.length : Int) < 1 from .inr (by omega))
     clear hk h1
     go_enter_defers Try.func86, Try.ntmps86
     go_wp2_with (first | (go_at_call 69; (with_reducible refine (pack_bits.ok a1 HK.out _).mono ?_); rintro e w' ⟨rfl, rfl⟩) | (go_at_call 85; (with_reducible refine (pack_take.no A0 c0 l0 1 HL8.out HM.out _).mono ?_); rintro e w1 ⟨rfl, rfl⟩))
     simp only [bodyPostD]
     exact tl_tail_no w _ _ _ _ (t3_a _ _ _ _ _ _ _ 0) (s3_a _ _ _ _ _ _ _ 0) (t3_b _ _ _ _ _ _ _ 0) (s3_b _ _ _ _ _ _ _ 0) (t3_c _ _ _ _ _ _ _ 0) (s3_c _ _ _ _ _ _ _ 0) (by simp) (below_alloc (below_alloc (below_alloc (Below.refl _ _) _) _) _) rfl rfl rfl
   ·have hz : (r1, r2, r3) = ([], [], 40) := by rw [← HH.out]; unfold pkTakeList; rw [if_neg (fun hx => hk hx.1)]
    simp only [Prod.mk.injEq] at hz
    obtain ⟨rfl, rfl, rfl⟩ := hz
    have HM := Aside0.mk (show okSize a1 = false by simpa using hk)
    clear hk
    go_enter_defers Try.func86, Try.ntmps86
    go_wp2_with (first | (go_at_call 69; (with_reducible refine (pack_bits.no a1 HM.out _).mono ?_); rintro e w1 ⟨rfl, rfl⟩))
    simp only [bodyPostD]
    exact tl_tail_no w _ _ _ _ (t3_a _ _ _ _ _ _ _ 0) (s3_a _ _ _ _ _ _ _ 0) (t3_b _ _ _ _ _ _ _ 0) (s3_b _ _ _ _ _ _ _ 0) (t3_c _ _ _ _ _ _ _ 0) (s3_c _ _ _ _ _ _ _ 0) (by simp) (below_alloc (below_alloc (below_alloc (Below.refl _ _) _) _) _) rfl rfl rfl
  ·rw [if_neg hmany] at h; cases h
 ·rw [if_neg hl] at h; cases h
theorem wp_scope_on {P : Program} {a : Act} {w : World} {Q : Exit → Act → World → Prop} {c rest : Code} (l : Nat) (hf : findLabel c l = some rest)
  (first : c.wp P (Exit.jump l (fun a w => rest.wp P (Exit.noGoto Q) a w) Q) a w) : (Code.scope c).wp P Q a w :=
 wp_scope_jumps l _ (fun _ _ => 0) hf first (fun a w h => wp_mono h (fun e a' w' hq => by cases e <;> first | exact hq | exact hq.elim))
theorem jump_ret {l : Nat} {J : Act → World → Prop} {Q : Exit → Act → World → Prop} : Exit.jump l J Q .ret = Q .ret := rfl
def wrNode (b : List Int) : Option (Option (S48 × List Int)) :=
 (pack_Take.f b 1).bind fun p => if p.2.2 = 0 then ((pack_TakeList.f p.2.1 1).bind fun q => if q.2.2 = 0 then ((pack_TakeList.f q.2.1 8).bind fun s => if s.2.2 = 0 then some (some (⟨p.1, q.1, s.1⟩, s.2.1)) else some none) else some none) else some none
def wrNodes : Nat → List Int → Option (Option (List S48 × List Int))
 | 0, b => some (some ([], b))
 | m + 1, b => (wrNode b).bind fun o => match o with
  | none => some none
  | some x => (wrNodes m x.2).bind fun o2 => some (o2.map fun y => (x.1 :: y.1, y.2))
def wrEnd (xs : List S48) (o : Option (List S48 × List Int)) : List S48 × Int :=
 match o with
 | none => ([], 120)
 | some y => if y.2 = [] ∧ gchk (xs ++ y.1) = true then (xs ++ y.1, 0) else ([], 120)
def wire_Read.f (l0 : List Int) : Option (List S48 × Int) :=
 (pack_Take.f l0 1).bind fun p => if p.2.2 = 0 then (if 0 ≤ p.1 ∧ p.1 ≤ 255 then (wrNodes p.1.toNat p.2.1).map (wrEnd []) else none) else some ([], 120)
theorem wr_step (xs : List S48) (m : Nat) (b : List Int) : (wrNodes (m + 1) b).map (wrEnd xs) = (wrNode b).bind fun o => match o with
  | none => some ([], 120)
  | some x => (wrNodes m x.2).map (wrEnd (xs ++ [x.1])) := by
 rw [wrNodes]
 cases wrNode b with
 | none => rfl
 | some o =>
  cases o with
  | none => rfl
  | some x =>
   simp only [Option.bind_some]
   cases wrNodes m x.2 with
   | none => rfl
   | some o2 =>
    cases o2 with
    | none => rfl
    | some y => simp [wrEnd, List.append_assoc]
theorem below_alloc_step {w W : World} {o : Obj} (h : Below (w.alloc o).heap.size (w.alloc o) W) : Below w.heap.size w W :=
 below_step (below_alloc (Below.refl _ _) o) h
theorem R_off {α : Type} {d : Kd α} {e : Nat} {w : World} {B : Nat} {ok : Nat → Prop} {v : Value} {xs : List α} (h : d.R e w B ok v xs) {g : Nat} (hg : g < B) (j : Nat) (u : Value) : d.R e (w.setCell ⟨g, j, none⟩ u) B ok v xs :=
 Kd.R_mono (Kd.R_far (p := ⟨g, j, none⟩) (Kd.R_bound h) (fun k hk => by have := hk.2.1; simp only; omega) u) (fun _ hk => hk.1)
theorem R_set_new {α : Type} {d : Kd α} {e : Nat} {w : World} {B G : Nat} {v : Value} {xs : List α} (h : d.R e w B (fun k => k < G) v xs) {g : Nat} (hg : G ≤ g) (j : Nat) (u : Value) : d.R e (w.setCell ⟨g, j, none⟩ u) B (fun k => k < G) v xs :=
 Kd.R_far (p := ⟨g, j, none⟩) h (fun k hk => by simp only; omega) u
structure RInv (w wr : World) (v : Value) (xs : List S48) (Ar : Option Addr) (cr : Nat) (b : List Int) : Prop where
 bel : Below w.heap.size w wr
 out : Kd.R k48 48 wr w.heap.size (fun _ => True) v xs
 rd : Kd.C (Kd.int .u8) wr Ar b.length b
 cap : b.length ≤ cr
set_option maxHeartbeats 8000000 in
set_option maxRecDepth 100000 in
theorem wire_Read.calls (A0 : Option Addr) (c0 : Nat) (l0 : List Int) (r1 : List S48) (r2 : Int) (w : World) (hr0 : Kd.C (Kd.int .u8) w A0 l0.length l0) (hc0 : l0.length ≤ c0) (h : wire_Read.f l0 = some (r1, r2)) :
  Calls Try.prog 75 #[.slice A0 l0.length c0] w fun e w' => ∃ v0_ : Value, e = .returned (.tuple #[v0_, .int .i64 r2]) ∧ Kd.R k48 48 w' w.heap.size (fun _ => True) v0_ r1 ∧ Below w.heap.size w w' := by
 unfold wire_Read.f at h
 replace h := h
 obtain ⟨⟨n, rest0, e0⟩, hp, h'⟩ := Option.bind_eq_some_iff.mp h
 clear h
 have h := h'
 clear h'
 simp only at h
 have HR := Aside0.mk hr0
 have HC := Aside0.mk hc0
 have HP := Aside0.mk hp
 clear hr0 hc0 hp
 by_cases he : e0 = 0
 ·subst he
  simp only [if_true] at h
  by_cases hn : 0 ≤ n ∧ n ≤ 255
  ·rw [if_pos hn] at h
   obtain ⟨hn0, hn1⟩ := hn
   have HH := Aside0.mk h
   clear h
   go_enter Try.func75, Try.ntmps75
   go_wp2_with fail
   refine wp_scope_on (rest := ?rest) 0 ?hf ?_
   case hf => rfl
   go_wp2_with fail
   refine (pack_Take.calls A0 c0 l0 1 n rest0 0 _ HR.out HC.out HP.out).mono ?_
   rintro e w1 ⟨v1, rfl, hR1, hb1⟩
   obtain ⟨Ar, cr, rfl, hl1, hC1⟩ := Kd.R_reads hR1
   have HB1 := Aside0.mk hb1
   have HC1 := Aside0.mk hC1
   have HL1 := Aside0.mk hl1
   clear hR1 hb1 hC1 hl1 HR HC HP
   go_wp2_with fail
   have HI : Aside0 (RInv w w1 (.slice none 0 0) [] Ar cr rest0) := ⟨HB1.out, Kd.R_nil _ _ _ _ _, HC1.out, HL1.out⟩
   clear HB1 HC1 HL1
   go_loopg [2, 3, 5, 16] n.toNat (fun gg s2 s3 s5 s16 wr => ∃ (kk : Nat) (xs : List S48) (Ar : Option Addr) (cr : Nat) (b : List Int), s3 = .int .i64 0 ∧ s5 = .slice Ar b.length cr ∧ s16 = .int .i64 kk ∧ Aside0 (kk ≤ n.toNat ∧ n.toNat - kk ≤ gg ∧ xs.length = kk) ∧ Aside0 (RInv w wr s2 xs Ar cr b) ∧ Aside0 ((wrNodes (n.toNat - kk) b).map (wrEnd xs) = some (r1, r2)))
   case atStart => exact ⟨0, [], Ar, cr, rest0, rfl, rfl, rfl, ⟨Nat.zero_le _, by omega, rfl⟩, HI, HH⟩
   case round =>
    clear HI HH
    obtain ⟨kk, xs, Ar, cr, b, rfl, rfl, rfl, HK, HI, HH⟩ := hrel
    by_cases hlt : kk < n.toNat
    ·have hltz : (kk : Int) < n := by omega
     have hbz : decide ((kk : Int) < n) = true := decide_eq_true hltz
     obtain ⟨m, hm⟩ : ∃ m, n.toNat - kk = m + 1 := ⟨n.toNat - kk - 1, by omega⟩
     rw [hm, wr_step] at HH
     obtain ⟨o, ho, hH⟩ := Option.bind_eq_some_iff.mp HH.out
     unfold wrNode at ho
     obtain ⟨⟨op, b1, e1⟩, hp1, ho⟩ := Option.bind_eq_some_iff.mp ho
     have HP1 := Aside0.mk hp1
     have HM := Aside0.mk hm
     clear HH hp1 hm hlt
     have BK := Aside0.mk (blk_new wr (.cells #[.int .i64 0, .slice none 0 0, .slice none 0 0] 48))
     have HBr := Aside0.mk HI.out.bel
     have HO := Aside0.mk (Kd.R_mono (ok' := fun k => k < wr.heap.size) (Kd.R_bound HI.out.out) (fun k hk => hk.2.2.1))
     have HS : Aside0 (w.heap.size ≤ wr.heap.size) := ⟨HBr.out.size⟩
     go_wp2_with fail
     refine (pack_Take.calls Ar cr b 1 op b1 e1 _ (Kd.C_alloc HI.out.rd _) HI.out.cap HP1.out).mono ?_
     rintro e w2 ⟨v1, rfl, hR1, hb1⟩
     replace BK := Aside0.mk (blk_below BK.out hb1)
     obtain ⟨Ar1, cr1, rfl⟩ := Kd.R_slice hR1
     have HB := Aside0.mk (below_alloc_step hb1)
     have HR1 := Aside0.mk (Kd.R_lower (base' := wr.heap.size + 1) hR1 (by simp))
     replace HO := Aside0.mk (Kd.R_below HO.out HB.out)
     clear hR1 hb1
     have x0 : w2.cell? ⟨wr.heap.size, 0, none⟩ = some (.int .i64 0) := (blk_cell BK.out 0).trans rfl; have x1 : w2.cell? ⟨wr.heap.size, 1, none⟩ = some (.slice none 0 0) := (blk_cell BK.out 1).trans rfl; have x2 : w2.cell? ⟨wr.heap.size, 2, none⟩ = some (.slice none 0 0) := (blk_cell BK.out 2).trans rfl; have y0 := blk_frozen BK.out 0; have y1 := blk_frozen BK.out 1; have y2 := blk_frozen BK.out 2
     by_cases h1 : e1 = 0
     ·subst h1
      have ho2 := ho
      clear ho
      simp only [if_true] at ho2
      obtain ⟨⟨args, b2, e2⟩, hp2, ho⟩ := Option.bind_eq_some_iff.mp ho2
      have HP2 := Aside0.mk hp2
      clear hp2 ho2
      go_wp2_with fail
      obtain ⟨W2, hW2⟩ : ∃ W2, W2 = w2.setCell ⟨wr.heap.size, 0, none⟩ (.int .i64 op) := ⟨_, rfl⟩
      replace BK := Aside0.mk (blk_put BK.out 0 (.int .i64 op) (cs' := #[.int .i64 op, .slice none 0 0, .slice none 0 0]) rfl)
      replace HR1 := Aside0.mk (R_off HR1.out (Nat.lt_succ_self _) 0 (.int .i64 op))
      replace HO := Aside0.mk (R_set_new HO.out (Nat.le_refl _) 0 (.int .i64 op))
      replace HB := Aside0.mk (HB.out.setCell (p := ⟨wr.heap.size, 0, none⟩) (Nat.le_refl _) (.int .i64 op))
      rw [← hW2] at BK HR1 HO HB ⊢
      clear hW2 x0 x1 x2 y0 y1 y2
      have HL2 : Aside0 (wr.heap.size + 1 ≤ W2.heap.size) := ⟨blk_lt BK.out⟩
      refine (pack_TakeList.calls Ar1 cr1 b1 1 args b2 e2 _ (Kd.R_reads' HR1.out).2.2 (Kd.R_reads' HR1.out).2.1 HP2.out).mono ?_
      rintro e w3 ⟨v2, v3, rfl, hR2, hR3, hb2⟩
      replace BK := Aside0.mk (blk_below BK.out hb2)
      obtain ⟨Ar2, cr2, rfl⟩ := Kd.R_slice hR2
      obtain ⟨Ar3, cr3, rfl⟩ := Kd.R_slice hR3
      have HB2 := Aside0.mk hb2
      have hlt := blk_lt BK.out
      replace HR1 := Aside0.mk (Kd.R_below HR1.out hb2)
      replace HO := Aside0.mk (Kd.R_below HO.out hb2)
      replace HB := Aside0.mk (below_step HB.out hb2)
      have HR2 := Aside0.mk (Kd.R_lower (base' := wr.heap.size + 1) hR2 HL2.out)
      have HR3 := Aside0.mk (Kd.R_lower (base' := wr.heap.size + 1) hR3 HL2.out)
      clear hR2 hR3 hb2 hlt HB2 HL2
      have x0 : w3.cell? ⟨wr.heap.size, 0, none⟩ = some (.int .i64 op) := (blk_cell BK.out 0).trans rfl; have x1 : w3.cell? ⟨wr.heap.size, 1, none⟩ = some (.slice none 0 0) := (blk_cell BK.out 1).trans rfl; have x2 : w3.cell? ⟨wr.heap.size, 2, none⟩ = some (.slice none 0 0) := (blk_cell BK.out 2).trans rfl; have y0 := blk_frozen BK.out 0; have y1 := blk_frozen BK.out 1; have y2 := blk_frozen BK.out 2
      by_cases h2 : e2 = 0
      ·subst h2
       have ho3 := ho
       clear ho
       simp only [if_true] at ho3
       obtain ⟨⟨nums, b3, e3⟩, hp3, ho⟩ := Option.bind_eq_some_iff.mp ho3
       have HP3 := Aside0.mk hp3
       clear hp3 ho3
       go_wp2_with fail
       obtain ⟨W3, hW⟩ : ∃ W', W' = w3.setCell ⟨wr.heap.size, 1, none⟩ (.slice Ar2 args.length cr2) := ⟨_, rfl⟩
       replace BK := Aside0.mk (blk_put BK.out 1 (.slice Ar2 args.length cr2) (cs' := #[.int .i64 op, .slice Ar2 args.length cr2, .slice none 0 0]) rfl)
       replace HR2 := Aside0.mk (R_off HR2.out (Nat.lt_succ_self _) 1 (.slice Ar2 args.length cr2))
       replace HR3 := Aside0.mk (R_off HR3.out (Nat.lt_succ_self _) 1 (.slice Ar2 args.length cr2))
       replace HO := Aside0.mk (R_set_new HO.out (Nat.le_refl _) 1 (.slice Ar2 args.length cr2))
       replace HB := Aside0.mk (HB.out.setCell (p := ⟨wr.heap.size, 1, none⟩) (Nat.le_refl _) (.slice Ar2 args.length cr2))
       rw [← hW] at BK HO HB HR2 HR3 ⊢
       clear hW x0 x1 x2 y0 y1 y2
       have HL3 : Aside0 (wr.heap.size + 1 ≤ W3.heap.size) := ⟨blk_lt BK.out⟩
       refine (pack_TakeList.calls Ar3 cr3 b2 8 nums b3 e3 _ (Kd.R_reads' HR3.out).2.2 (Kd.R_reads' HR3.out).2.1 HP3.out).mono ?_
       rintro e w4 ⟨v4, v5, rfl, hR4, hR5, hb4⟩
       replace BK := Aside0.mk (blk_below BK.out hb4)
       obtain ⟨Ar4, cr4, rfl⟩ := Kd.R_slice hR4
       obtain ⟨Ar5, cr5, rfl⟩ := Kd.R_slice hR5
       replace HR2 := Aside0.mk (Kd.R_below HR2.out hb4)
       replace HO := Aside0.mk (Kd.R_below HO.out hb4)
       replace HB := Aside0.mk (below_step HB.out hb4)
       have HR4 := Aside0.mk (Kd.R_lower (base' := wr.heap.size + 1) hR4 HL3.out)
       have HR5 := Aside0.mk (Kd.R_lower (base' := wr.heap.size + 1) hR5 HL3.out)
       clear hR4 hR5 hb4 HL3 HR1 HR3
       have x0 : w4.cell? ⟨wr.heap.size, 0, none⟩ = some (.int .i64 op) := (blk_cell BK.out 0).trans rfl; have x1 : w4.cell? ⟨wr.heap.size, 1, none⟩ = some (.slice Ar2 args.length cr2) := (blk_cell BK.out 1).trans rfl; have x2 : w4.cell? ⟨wr.heap.size, 2, none⟩ = some (.slice none 0 0) := (blk_cell BK.out 2).trans rfl; have y0 := blk_frozen BK.out 0; have y1 := blk_frozen BK.out 1; have y2 := blk_frozen BK.out 2
       by_cases h3 : e3 = 0
       ·subst h3
        have ho4 := Option.some.inj ho
        subst ho4
        have HH2 := Aside0.mk hH
        have HM2 : Aside0 (Kd.R (Kd.int .i64) 3 (w4.setCell ⟨wr.heap.size, 2, none⟩ (.slice Ar4 nums.length cr4)) w.heap.size (fun k => wr.heap.size + 1 ≤ k) (.slice Ar2 args.length cr2) args) := ⟨Kd.R_lower (Kd.R_mono (Kd.R_bound (R_off HR2.out (Nat.lt_succ_self _) 2 _)) (fun k hk => hk.2.1)) (Nat.le_succ_of_le HS.out)⟩
        have HM4 : Aside0 (Kd.R (Kd.int .i64) 3 (w4.setCell ⟨wr.heap.size, 2, none⟩ (.slice Ar4 nums.length cr4)) w.heap.size (fun k => wr.heap.size + 1 ≤ k) (.slice Ar4 nums.length cr4) nums) := ⟨Kd.R_lower (Kd.R_mono (Kd.R_bound (R_off HR4.out (Nat.lt_succ_self _) 2 _)) (fun k hk => hk.2.1)) (Nat.le_succ_of_le HS.out)⟩
        have HM5 := Aside0.mk (R_off HR5.out (Nat.lt_succ_self _) 2 (.slice Ar4 nums.length cr4))
        replace HO := Aside0.mk (R_set_new HO.out (Nat.le_refl _) 2 (.slice Ar4 nums.length cr4))
        have HBW := Aside0.mk ((below_step HBr.out HB.out).setCell (p := ⟨wr.heap.size, 2, none⟩) HS.out (.slice Ar4 nums.length cr4))
        have z0 : (w4.setCell ⟨wr.heap.size, 2, none⟩ (.slice Ar4 nums.length cr4)).cell? ⟨wr.heap.size, 0, none⟩ = some (.int .i64 op) := (blk_cell (blk_put BK.out 2 (.slice Ar4 nums.length cr4) (cs' := #[.int .i64 op, .slice Ar2 args.length cr2, .slice Ar4 nums.length cr4]) rfl) 0).trans rfl
        have z1 : (w4.setCell ⟨wr.heap.size, 2, none⟩ (.slice Ar4 nums.length cr4)).cell? ⟨wr.heap.size, 1, none⟩ = some (.slice Ar2 args.length cr2) := (blk_cell (blk_put BK.out 2 (.slice Ar4 nums.length cr4) (cs' := #[.int .i64 op, .slice Ar2 args.length cr2, .slice Ar4 nums.length cr4]) rfl) 1).trans rfl
        have z2 : (w4.setCell ⟨wr.heap.size, 2, none⟩ (.slice Ar4 nums.length cr4)).cell? ⟨wr.heap.size, 2, none⟩ = some (.slice Ar4 nums.length cr4) := (blk_cell (blk_put BK.out 2 (.slice Ar4 nums.length cr4) (cs' := #[.int .i64 op, .slice Ar2 args.length cr2, .slice Ar4 nums.length cr4]) rfl) 2).trans rfl
        clear hH ho
        go_wp2_with ((with_reducible refine gate_builtin (b := .append) (xs := #[.tmp 45, .tmp 47]) rfl ?_); at_builtin; refine Kd.R_append k48 (w0 := w) w.heap.size rfl (.tmp 45) (.tmp 47) 23 48 (.agg #[(.int .i64 0), (.slice none 0 0), (.slice none 0 0)]) 56 rfl Try.underlying23 info48 rfl (by decide) (by omega) u2 xs (⟨op, args, nums⟩ : S48) [.int .i64 op, .slice Ar2 args.length cr2, .slice Ar4 nums.length cr4] (fun _ => True) (fun k => wr.heap.size + 1 ≤ k) rfl (by go_simp; first | done | simp) ?aP ?aK (fun _ _ => trivial) ?aO ?aB ?aS ?aL ?_; (case aP => exact ⟨[_], [_, _], rfl, rfl, [_], [_], rfl, ⟨_, rfl, HM2.out⟩, ⟨_, rfl, HM4.out⟩⟩); (case aK => exact fun k hk => ⟨trivial, fun e => by have := HO.out.1 k e.symm; omega⟩); (case aO => exact Kd.R_mono HO.out (fun _ _ => trivial)); (case aB => exact HBW.out); (case aS => exact HBW.out.size); (case aL => have := HK.out; omega); intro v7 w7 ho hb hg hat; have HO7 := Aside0.mk ho; have HB7 := Aside0.mk hb; have HG7 := Aside0.mk hg; clear ho hb hg hat)
        go_roundg (n.toNat - (kk + 1))
        case measure => have := HK.out; omega
        case rel =>
         have hR5 : Kd.R (Kd.int .u8) 5 w7 (wr.heap.size + 1) (fun k => wr.heap.size + 1 ≤ k) (.slice Ar5 b3.length cr5) b3 := Kd.R_step (Kd.R_mono (Kd.R_bound HM5.out) (fun k hk => hk.2.1)) (fun k hk hl => HG7.out.block k hl (fun e => by have := HO.out.1 k e.symm; omega))
         refine ⟨kk + 1, _, Ar5, cr5, b3, rfl, rfl, by go_num, ⟨by have := HK.out; omega, by omega, by have := HK.out; simp; omega⟩, ⟨HB7.out, HO7.out, (Kd.R_reads' hR5).2.2, (Kd.R_reads' hR5).2.1⟩, ⟨?_⟩⟩
         rw [show n.toNat - (kk + 1) = m by have := HM.out; omega]
         exact HH2.out
       ·have hb0 : (e3 != 0) = true := bne_iff_ne.mpr h3
        rw [if_neg h3] at ho
        cases ho
        have hH := Option.some.inj hH
        simp only [Prod.mk.injEq] at hH
        obtain ⟨rfl, rfl⟩ := hH
        clear h3
        go_wp2_with fail
        go_step3
        refine ⟨rfl, ?_⟩
        go_wp2
        rw [Exit.noGoto_ret]
        go_ret2
        exact ⟨_, rfl, Kd.R_nil _ _ _ _ _, (below_step HBr.out HB.out).setCell (p := ⟨wr.heap.size, 2, none⟩) HS.out _⟩
      ·have hb0 : (e2 != 0) = true := bne_iff_ne.mpr h2
       rw [if_neg h2] at ho
       cases ho
       have hH := Option.some.inj hH
       simp only [Prod.mk.injEq] at hH
       obtain ⟨rfl, rfl⟩ := hH
       clear h2
       go_wp2_with fail
       go_step3
       refine ⟨rfl, ?_⟩
       go_wp2
       rw [Exit.noGoto_ret]
       go_ret2
       exact ⟨_, rfl, Kd.R_nil _ _ _ _ _, (below_step HBr.out HB.out).setCell (p := ⟨wr.heap.size, 1, none⟩) HS.out _⟩
     ·have hb0 : (e1 != 0) = true := bne_iff_ne.mpr h1
      rw [if_neg h1] at ho
      cases ho
      have hH := Option.some.inj hH
      simp only [Prod.mk.injEq] at hH
      obtain ⟨rfl, rfl⟩ := hH
      clear h1
      go_wp2_with fail
      go_step3
      refine ⟨rfl, ?_⟩
      go_wp2
      rw [Exit.noGoto_ret]
      go_ret2
      exact ⟨_, rfl, Kd.R_nil _ _ _ _ _, (below_step HBr.out HB.out).setCell (p := ⟨wr.heap.size, 0, none⟩) HS.out _⟩
    ·have hbz : decide ((kk : Int) < n) = false := decide_eq_false (by omega)
     have hm : n.toNat - kk = 0 := by omega
     rw [hm] at HH
     have hH := HH.out
     simp only [wrNodes, Option.map_some, wrEnd, List.append_nil, Option.some.injEq] at hH
     have HO := Aside0.mk HI.out.out
     have HBr := Aside0.mk HI.out.bel
     obtain ⟨Ao, co, eo⟩ := Kd.R_slice HO.out
     subst eo
     clear HH hm hlt HI
     by_cases hb : b = []
     ·subst hb
      simp only [true_and] at hH
      by_cases hg : gchk xs = true
      ·rw [if_pos hg] at hH
       simp only [Prod.mk.injEq] at hH
       obtain ⟨rfl, rfl⟩ := hH
       have HGC := Aside0.mk (show graph_Check.f xs = some true by rw [graph_Check.f, hg])
       clear hg
       go_wp2_with (go_at_call 30; (with_reducible refine (graph_Check.calls Ao co xs _ _ (Kd.R_reads' HO.out).2.2 (Kd.R_reads' HO.out).2.1 HGC.out).mono ?_); rintro e w2 ⟨rfl, hb2⟩; have HB2 := Aside0.mk hb2; clear hb2)
       rw [jump_ret]
       go_ret2
       exact ⟨_, rfl, Kd.R_below HO.out HB2.out, below_step HBr.out HB2.out⟩
      ·rw [if_neg hg] at hH
       simp only [Prod.mk.injEq] at hH
       obtain ⟨rfl, rfl⟩ := hH
       have HGC := Aside0.mk (show graph_Check.f xs = some false by rw [graph_Check.f]; simpa using hg)
       clear hg
       go_wp2_with (go_at_call 30; (with_reducible refine (graph_Check.calls Ao co xs _ _ (Kd.R_reads' HO.out).2.2 (Kd.R_reads' HO.out).2.1 HGC.out).mono ?_); rintro e w2 ⟨rfl, hb2⟩; have HB2 := Aside0.mk hb2; clear hb2)
       go_step3
       go_wp2
       rw [jump_ret]
       go_ret2
       exact ⟨_, rfl, Kd.R_nil _ _ _ _ _, below_step HBr.out HB2.out⟩
     ·have hl0 : ((b.length : Int) == 0) = false := beq_eq_false_iff_ne.mpr (fun e => hb (List.eq_nil_of_length_eq_zero (by omega)))
      simp only [hb, false_and, if_false] at hH
      simp only [Prod.mk.injEq] at hH
      obtain ⟨rfl, rfl⟩ := hH
      clear hb
      go_wp2_with fail
      go_step3
      go_wp2
      rw [jump_ret]
      go_ret2
      exact ⟨_, rfl, Kd.R_nil _ _ _ _ _, HBr.out⟩
  ·rw [if_neg hn] at h; cases h
 ·have hb0 : (e0 != 0) = true := bne_iff_ne.mpr he
  rw [if_neg he] at h
  have h := Option.some.inj h
  simp only [Prod.mk.injEq] at h
  obtain ⟨rfl, rfl⟩ := h
  clear he
  go_enter Try.func75, Try.ntmps75
  go_wp2_with fail
  refine wp_scope_on (rest := ?rest) 0 ?hf ?_
  case hf => rfl
  go_wp2_with fail
  refine (pack_Take.calls A0 c0 l0 1 n rest0 e0 _ HR.out HC.out HP.out).mono ?_
  rintro e w1 ⟨v1, rfl, hR1, hb1⟩
  obtain ⟨Ar, cr, rfl⟩ := Kd.R_slice hR1
  have HB1 := Aside0.mk hb1
  clear hR1 hb1
  go_wp2_with fail
  go_step3
  refine ⟨rfl, ?_⟩
  go_wp2
  rw [Exit.noGoto_ret]
  go_ret2
  exact ⟨_, rfl, Kd.R_nil _ _ _ _ _, HB1.out⟩
end Go.Proofs.Ytjcgadfmhfhbgaa.A
