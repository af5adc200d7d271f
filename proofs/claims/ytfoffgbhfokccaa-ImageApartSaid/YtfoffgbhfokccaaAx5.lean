/- Lean functions that answer as the Go functions do, and the proofs that they do; no conditions. Written by this session's own driver: a scratch copy of the kit's print with the session's additions (wip/xprint). -/
import Derived.Test.YtfoffgbhfokccaaAx0
import Derived.Test.YtfoffgbhfokccaaAx2
import Derived.Test.YtfoffgbhfokccaaAx3
import Derived.Test.YtfoffgbhfokccaaAx4
import Derived.Test.YtfoffgbhfokccaaAx6
namespace Go.Proofs.Ytfoffgbhfokccaa.A
open Go.RowKit Go.Proofs.YtfoffgbhfokccaaW.PrintWords Go.Proofs.YtfoffgbhfokccaaW.PrintLast Go.Proofs.YtfoffgbhfokccaaW.PrintMore
attribute [local go_sem] max2_int min2_int max_two min_two max_three min_three max_four min_four   -- for this text's walks alone
set_option linter.unusedVariables false
set_option linter.unusedSimpArgs false

/-! ### pack_List: function 22 (given) -/
/-- Numbers' bytes, one behind the other. -/
def pkAll (size : Int) : List Int → List Int
  | [] => []
  | n :: l => pkBytes size.toNat n ++ pkAll size l
def pkListOk (l1 : List Int) (a2 : Int) : Bool := okSize a2 && decide (l1.length ≤ 255) && l1.all fun n => pkMay n a2
/-- What a list is put as. -/
def pkList (l0 l1 : List Int) (a2 : Int) : List Int × Int := if pkListOk l1 a2 = true then (l0 ++ ((l1.length : Int) :: pkAll a2 l1), 0) else ([], 40)
def pack_List.f (l0 l1 : List Int) (a2 : Int) : Option (List Int × Int) := if l0.length + 8 * l1.length + 20 < 140737488355328 then some (pkList l0 l1 a2) else none
theorem pkBytes_length (m : Nat) (n : Int) : (pkBytes m n).length = m := by
  induction m with
  | zero => rfl
  | succ m ih => simp [pkBytes, ih]
theorem pkAll_snoc (size : Int) (l : List Int) (n : Int) : pkAll size (l ++ [n]) = pkAll size l ++ pkBytes size.toNat n := by
  induction l with
  | nil => simp [pkAll]
  | cons a l ih => simp [pkAll, ih]
theorem pkAll_length (size : Int) (l : List Int) : (pkAll size l).length = size.toNat * l.length := by
  induction l with
  | nil => simp [pkAll]
  | cons a l ih => simp [pkAll, ih, pkBytes_length, Nat.mul_add]; omega
theorem okSize_cases {n : Int} (h : okSize n = true) : n = 1 ∨ n = 2 ∨ n = 8 := by simpa [okSize, or_assoc] using h
theorem list_nil_ok (p : Addr) (x : Value) (w : World) (hc : w.cell? p = some x) (hf : w.frozen? p = false) :
    Calls Try.prog 38 #[.pointer (some p)] w fun e w' => e = .returned (.tuple #[]) ∧ w.setCell p (.slice none 0 0) = w' := by
  go_enter Try.func38, Try.ntmps38
  go_wp2
  go_end0
  exact ⟨rfl, rfl⟩
theorem list_two (tm : Array Value) (W : World) (a b : Addr) (x y : Value) (t6 : tm[6]?.getD undef = .pointer (some a)) (t7 : tm[7]?.getD undef = .pointer (some b)) (k6 : W.cell? a = some x) (k7 : W.cell? b = some y) :
    (results Try.f22 tm).run Try.prog W = .ok (.tuple #[x, y]) W := by
  simp [results, Try.results22, go_sem, t6, t7, k6, k7]
theorem list_tail_no (w w1 : World) (x : Value) (tm : Array Value) (c6 : w1.cell? ⟨w.heap.size, 0, none⟩ = some x) (f6 : w1.frozen? ⟨w.heap.size, 0, none⟩ = false)
    (c7 : w1.cell? ⟨w.heap.size + 1, 0, none⟩ = some (.int .i64 0)) (f7 : w1.frozen? ⟨w.heap.size + 1, 0, none⟩ = false) (z1 : w.heap.size + 2 ≤ w1.heap.size) (hb : Below w.heap.size w w1)
    (t6 : tm[6]?.getD undef = .pointer (some ⟨w.heap.size, 0, none⟩)) (t7 : tm[7]?.getD undef = .pointer (some ⟨w.heap.size + 1, 0, none⟩)) :
    Leaves Try.prog Try.f22 tm (fun e w' => ∃ v0_ : Value, e = .returned (.tuple #[v0_, .int .i64 40]) ∧ Kd.R (Kd.int .u8) 5 w' w.heap.size (fun _ => True) v0_ [] ∧ Below w.heap.size w w')
      [{ target := Target.fn (Fn.func 37) #[], args := #[.pointer (some ⟨w.heap.size + 1, 0, none⟩), .func (Fn.func 38) #[] #[.pointer (some ⟨w.heap.size, 0, none⟩)]] }] (.panicking [wrongE]) w1 := by
  have hlt : w.heap.size < w1.heap.size := by omega
  have hlt2 : w.heap.size + 1 < w1.heap.size := by omega
  refine leaves_cons (f := 37) (args := #[.pointer (some ⟨w.heap.size + 1, 0, none⟩), .func (Fn.func 38) #[] #[.pointer (some ⟨w.heap.size, 0, none⟩)]]) (by simp) (by simp [go_sem]) ?_
  refine (pack_told.wrong ⟨w.heap.size + 1, 0, none⟩ 38 #[.pointer (some ⟨w.heap.size, 0, none⟩)] (.int .i64 0) [] w1 (fun w2 => (w1.alloc (.cells #[] 65)).setCell ⟨w.heap.size, 0, none⟩ (.slice none 0 0) = w2) (fun W => by simp [go_sem]) ?_).mono ?_
  · refine (list_nil_ok ⟨w.heap.size, 0, none⟩ x _ (by rw [World.cell?_alloc_lt _ _ _ hlt]; exact c6) (by rw [World.frozen?_alloc_old _ _ _ (Nat.ne_of_lt hlt)]; exact f6)).mono ?_
    rintro e w' ⟨rfl, rfl⟩
    refine ⟨rfl, rfl, ?_, ?_⟩
    · rw [World.cell?_setCell_other _ _ _ _ (by simp), World.cell?_alloc_lt _ _ _ hlt2]; exact c7
    · rw [World.frozen?_setCell, World.frozen?_alloc_old _ _ _ (Nat.ne_of_lt hlt2)]; exact f7
  · rintro e u' w' ⟨rfl, rfl, w2, rfl, rfl⟩
    have hs : settle (.panicking [wrongR]) = .returning := rfl
    simp only [hs]
    refine ⟨.tuple #[.slice none 0 0, .int .i64 40], ?_, .slice none 0 0, rfl, Kd.R_nil _ _ _ _ _, ?_⟩
    · refine list_two _ _ _ _ _ _ t6 t7 ?_ ?_
      · rw [World.cell?_setCell_other _ _ _ _ (by simp)]
        exact World.cell?_setCell_same _ _ _ (u := x) (by rw [World.cell?_alloc_lt _ _ _ hlt]; exact c6)
      · exact World.cell?_setCell_same _ _ _ (u := .int .i64 0) (by rw [World.cell?_setCell_other _ _ _ _ (by simp), World.cell?_alloc_lt _ _ _ hlt2]; exact c7)
    · exact ((hb.alloc (by omega) _).setCell (p := ⟨w.heap.size, 0, none⟩) (Nat.le_refl _) _).setCell (p := ⟨w.heap.size + 1, 0, none⟩) (by simp) _
/-- What holds at each round's head: the two variables in memory, and the row that the first one holds. -/
def ListInv (w : World) (A : Option Addr) (c : Nat) (acc : List Int) (W : World) : Prop :=
  W.cell? ⟨w.heap.size, 0, none⟩ = some (.slice A acc.length c) ∧ W.frozen? ⟨w.heap.size, 0, none⟩ = false ∧ W.cell? ⟨w.heap.size + 1, 0, none⟩ = some (.int .i64 0) ∧ W.frozen? ⟨w.heap.size + 1, 0, none⟩ = false ∧
  Kd.R (Kd.int .u8) 5 W w.heap.size (fun k => w.heap.size + 2 ≤ k) (.slice A acc.length c) acc ∧ Below w.heap.size w W ∧ w.heap.size + 2 ≤ W.heap.size
/-- A round: what was appended is stored. -/
theorem ListInv.next {w : World} {A A2 : Option Addr} {c c2 : Nat} {acc acc2 : List Int} {W W2 : World} (h : ListInv w A c acc W) (hk : Kept W W2 (fun k => w.heap.size + 2 ≤ k)) (hb : Below w.heap.size w W2)
    (hR : Kd.R (Kd.int .u8) 5 W2 w.heap.size (fun k => w.heap.size + 2 ≤ k ∨ W.heap.size ≤ k) (.slice A2 acc2.length c2) acc2) : ListInv w A2 c2 acc2 (W2.setCell ⟨w.heap.size, 0, none⟩ (.slice A2 acc2.length c2)) := by
  obtain ⟨h1, h2, h3, h4, h5, h6, h7⟩ := h
  have b0 : W2.heap[w.heap.size]? = W.heap[w.heap.size]? := hk.2 _ (by omega) (by omega)
  have b1 : W2.heap[w.heap.size + 1]? = W.heap[w.heap.size + 1]? := hk.2 _ (by omega) (by omega)
  have q0 : W2.cell? ⟨w.heap.size, 0, none⟩ = W.cell? ⟨w.heap.size, 0, none⟩ := World.cell?_of_block b0
  refine ⟨World.cell?_setCell_same _ _ _ (q0.trans h1), ?_, ?_, ?_, ?_, hb.setCell (p := ⟨w.heap.size, 0, none⟩) (Nat.le_refl _) _, ?_⟩
  · rw [World.frozen?_setCell]; exact (World.frozen?_of_block b0).trans h2
  · rw [World.cell?_setCell_other _ _ _ _ (by simp)]; exact (World.cell?_of_block b1).trans h3
  · rw [World.frozen?_setCell]; exact (World.frozen?_of_block b1).trans h4
  · exact Kd.R_far (Kd.R_mono hR (fun k hk => by rcases hk with hk | hk <;> omega)) (fun k hk => by simp; omega) _
  · have := hk.1; simp; omega
theorem all_take {l : List Int} {p : Int → Bool} {i : Nat} (h : i < l.length) : (l.take (i + 1)).all p = ((l.take i).all p && p l[i]) := by
  rw [List.take_add_one, List.getElem?_eq_getElem h, List.all_append, Option.toList_some, List.all_cons, List.all_nil, Bool.and_true]
set_option maxHeartbeats 8000000 in
set_option maxRecDepth 100000 in
theorem pack_List.calls (A0 : Option Addr) (c0 : Nat) (l0 : List Int) (A1 : Option Addr) (c1 : Nat) (l1 : List Int) (a2 : Int) (r1 : List Int) (r2 : Int) (w : World) (hr0 : Kd.C (Kd.int .u8) w A0 l0.length l0) (hc0 : l0.length ≤ c0)
    (hr1 : Kd.C (Kd.int .i64) w A1 l1.length l1) (hc1 : l1.length ≤ c1) (h : pack_List.f l0 l1 a2 = some (r1, r2)) :
    Calls Try.prog 22 #[.slice A0 l0.length c0, .slice A1 l1.length c1, .int .i64 a2] w fun e w' => ∃ v0_ : Value, e = .returned (.tuple #[v0_, .int .i64 r2]) ∧ Kd.R (Kd.int .u8) 5 w' w.heap.size (fun _ => True) v0_ r1 ∧ Below w.heap.size w w' := by
  unfold pack_List.f at h
  by_cases hl : l0.length + 8 * l1.length + 20 < 140737488355328
  · rw [if_pos hl] at h
    have h := Option.some.inj h
    have HL := Aside0.mk hl
    have HR0 := Aside0.mk hr0
    have HC0 := Aside0.mk hc0
    have HR1 := Aside0.mk hr1
    have HC1 := Aside0.mk hc1
    have hcf : slices_Clone_byte_byte.f l0 = some l0 := by unfold slices_Clone_byte_byte.f; rw [if_pos (by omega)]
    have HCF := Aside0.mk hcf
    clear hr0 hc0 hr1 hc1 hcf hl
    have hmf : ∀ (fn : Fn) (first cap : Array Value) (W : World), (Instr.makeFunc fn first cap).run Try.prog W = .ok (.func fn first cap) W := fun _ _ _ _ => rfl
    by_cases hk : okSize a2 = true
    · have HK := Aside0.mk hk
      clear hk
      by_cases h255 : l1.length ≤ 255
      · have H255 := Aside0.mk h255
        have hmay : pkMay (l1.length : Int) 1 = true := by simp [pkMay]; omega
        have HP := Aside0.mk (put_f l0 (l1.length : Int) 1 hmay (by have := HL.out; omega) 12 (Nat.le_refl _))
        clear h255 hmay
        have HH := Aside0.mk h
        clear h
        obtain ⟨z, hz⟩ : ∃ z : List Int, z = l0 ++ [(l1.length : Int)] := ⟨_, rfl⟩
        have hz2 : l0 ++ pkBytes (1 : Int).toNat (l1.length : Int) = z := by rw [hz]; have := H255.out; simp [pkBytes]; omega
        rw [hz2] at HP
        have HZ := Aside0.mk hz
        have HZL := Aside0.mk (show z.length = l0.length + 1 by rw [hz]; simp)
        clear hz hz2
        go_enter_defers Try.func22, Try.ntmps22
        go_wp2_with (first | (go_at_call 39; (with_reducible refine (pack_bits.ok a2 HK.out _).mono ?_); rintro e w' ⟨rfl, rfl⟩) | (go_at_call 35; (with_reducible refine (slices_Clone_byte_byte.calls _ _ l0 l0 _ ?s1 HC0.out HCF.out).mono ?_); (case s1 => repeat (first | exact HR0.out | (with_reducible refine Kd.C_alloc ?_ _))); rintro e w1 ⟨v1, rfl, hR1, hb1⟩; have HQ1 := Aside0.mk hR1; have HB1 := Aside0.mk hb1; clear hR1 hb1) | (go_at_call 40; (with_reducible refine (pack_put.calls 12 (fun _ => True) v1 l0 (l1.length : Int) 1 z _ _ HB1.out HQ1.out HP.out).mono ?_); rintro e w2 ⟨v2, rfl, hR2, hb2, hk2⟩; clear hk2; have c6 : w2.cell? ⟨w.heap.size, 0, none⟩ = some (.slice none 0 0) := (by rw [hb2.cell (by simp; omega)]; exact tc_a _ _ _ _ _); have f6 : w2.frozen? ⟨w.heap.size, 0, none⟩ = false := (by rw [hb2.frozen (by simp; omega)]; exact tf_a _ _ _ _ _); have c7 : w2.cell? ⟨w.heap.size + 1, 0, none⟩ = some (.int .i64 0) := (by rw [hb2.cell (by simp)]; exact tc_b _ _ _ _ _); have f7 : w2.frozen? ⟨w.heap.size + 1, 0, none⟩ = false := (by rw [hb2.frozen (by simp)]; exact tf_b _ _ _ _ _); obtain ⟨Ao2, co2, eo2⟩ := Kd.R_slice hR2; subst eo2; have HR2 := Aside0.mk hR2; have HB2 := Aside0.mk hb2; clear hR2 hb2))
        generalize hW6 : World.setCell _ _ _ = W6
        have hI : ListInv w Ao2 co2 (z ++ pkAll a2 (l1.take 0)) W6 := by
          have hb : Below w.heap.size w w2 := (below_alloc (below_alloc (Below.refl _ _) _) _).trans (HB2.out.mono (by simp; omega))
          have hz : z ++ pkAll a2 (l1.take 0) = z := by simp [pkAll]
          have hsz := HB2.out.size
          simp only [World.size_alloc] at hsz
          have r1 := Kd.R_bound HR2.out
          rw [hz, ← hW6]
          refine ⟨World.cell?_setCell_same _ _ _ c6, ?_, ?_, ?_, ?_, hb.setCell (p := ⟨w.heap.size, 0, none⟩) (Nat.le_refl _) _, ?_⟩
          · rw [World.frozen?_setCell]; exact f6
          · rw [World.cell?_setCell_other _ _ _ _ (by simp)]; exact c7
          · rw [World.frozen?_setCell]; exact f7
          · exact Kd.R_far (Kd.R_lower (Kd.R_mono r1 (fun k hk => by have := hk.2.1; simp at this; omega)) (by simp; omega)) (fun k hk => by simp; omega) _
          · simp; omega
        have HI := Aside0.mk hI
        clear hW6 hI c6 f6 c7 f7
        go_loopg [20] (l1.length + 1) (fun kq v20 w' => ∃ (i : Nat) (A : Option Addr) (c : Nat), v20 = .int .i64 (i : Int) ∧ Aside0 (i ≤ l1.length ∧ l1.length - i < kq ∧ (l1.take i).all (fun n => pkMay n a2) = true) ∧ Aside0 (ListInv w A c (z ++ pkAll a2 (l1.take i)) w'))
        case atStart => exact ⟨0, Ao2, co2, rfl, ⟨by omega, by omega, by simp⟩, HI⟩
        case round =>
          obtain ⟨i, Ai, ci, rfl, HA, HJ⟩ := hrel
          obtain ⟨hi1, hi2, hi3⟩ := HA.out
          obtain ⟨c6, f6, c7, f7, hRi, hBi, hSi⟩ := HJ.out
          have HRi := Aside0.mk hRi
          have HBi := Aside0.mk hBi
          have HSi := Aside0.mk hSi
          by_cases hlt : i < l1.length
          · have p0 : (0 : Int) ≤ (i : Int) := by omega
            have q0 : (i : Int) < (l1.length : Int) := by omega
            have hC := Kd.C_below HR1.out hBi
            obtain ⟨ad, he, hx⟩ := Kd.at_int hC (i : Int) p0 q0
            cases he
            rw [Int.toNat_natCast] at hx
            have hb0 : decide ((i : Int) < (l1.length : Int)) = true := decide_eq_true q0
            have hb1 : decide (i < l1.length) = true := decide_eq_true hlt
            have hrd : rd l1 (i : Int) = l1[i] := by unfold rd; simp [List.getD_eq_getElem?_getD, hlt]
            rw [hrd] at hx
            obtain ⟨n, hn⟩ : ∃ n, n = l1[i] := ⟨_, rfl⟩
            rw [← hn] at hx
            have p1 := eq_true p0
            have q1 := eq_true q0
            have HLT := Aside0.mk hlt
            have HN := Aside0.mk hn
            obtain ⟨acc, hacc⟩ : ∃ acc, acc = z ++ pkAll a2 (l1.take i) := ⟨_, rfl⟩
            have hal : acc.length ≤ z.length + 8 * l1.length := by
              have := okSize_cases HK.out
              rw [hacc, List.length_append, pkAll_length, List.length_take]
              have hm : a2.toNat * min i l1.length ≤ 8 * l1.length := Nat.mul_le_mul (by omega) (by omega)
              omega
            have HAL := Aside0.mk hal
            rw [← hacc] at c6 HRi HJ
            have HACC := Aside0.mk hacc
            clear p0 q0 hn hrd hC hacc hal hi1 hi2 hi3 hRi hBi hSi
            by_cases hm : pkMay n a2 = true
            · have hpf := put_f acc n a2 hm (by have := HAL.out; have := HL.out; have := HZL.out; omega) 12 (Nat.le_refl _)
              obtain ⟨acc2, hacc2⟩ : ∃ acc2, acc2 = acc ++ pkBytes a2.toNat n := ⟨_, rfl⟩
              rw [← hacc2] at hpf
              have HPF := Aside0.mk hpf
              have HM := Aside0.mk hm
              have HACC2 := Aside0.mk hacc2
              clear hpf hm hacc2
              go_wp2_with (first | (go_at_call 40; (with_reducible refine (pack_put.calls 12 (fun k => w.heap.size + 2 ≤ k) _ acc n a2 acc2 w _ HBi.out HRi.out HPF.out).mono ?_); rintro e w2 ⟨v2, rfl, hR2, hb2, hk2⟩; have j6 : w2.cell? ⟨w.heap.size, 0, none⟩ = some (.slice Ai acc.length ci) := ((World.cell?_of_block (hk2.2 w.heap.size (by have := HSi.out; omega) (by omega))).trans c6); have y6 : w2.frozen? ⟨w.heap.size, 0, none⟩ = false := ((World.frozen?_of_block (hk2.2 w.heap.size (by have := HSi.out; omega) (by omega))).trans f6); obtain ⟨Ao5, co5, eo5⟩ := Kd.R_slice hR2; subst eo5; have HR5 := Aside0.mk hR2; have HB5 := Aside0.mk hb2; have HK5 := Aside0.mk hk2; clear hR2 hb2 hk2))
              go_roundg (gk - 1)
              case measure => obtain ⟨hi1, hi2, hi3⟩ := HA.out; omega
              case rel =>
                obtain ⟨hi1, hi2, hi3⟩ := HA.out
                have hlt := HLT.out
                have g1 : i + 1 ≤ l1.length := by omega
                have g2 : l1.length - (i + 1) < gk - 1 := by omega
                have g3 : (l1.take (i + 1)).all (fun n => pkMay n a2) = true := by rw [all_take hlt, hi3, ← HN.out, HM.out]; rfl
                have g4 : acc2 = z ++ pkAll a2 (l1.take (i + 1)) := by
                  rw [HACC2.out, HACC.out, HN.out, List.take_add_one, List.getElem?_eq_getElem hlt, Option.toList_some, pkAll_snoc, List.append_assoc]
                have hlen : l1.length ≤ 255 := H255.out
                have hw : wrap64 ((i : Int) + 1) = ((i + 1 : Nat) : Int) := wof (by omega) (by omega)
                refine ⟨i + 1, Ao5, co5, by rw [hw], ⟨g1, g2, g3⟩, ?_⟩
                rw [← g4]
                exact ⟨ListInv.next HJ.out HK5.out HB5.out HR5.out⟩
            · have hm' : pkMay n a2 = false := by simpa using hm
              have HM := Aside0.mk hm'
              have hz : (r1, r2) = ([], 40) := by
                rw [← HH.out]
                have hlt := HLT.out
                have : (l1.all fun n => pkMay n a2) = false := by
                  rw [Bool.eq_false_iff]; intro ha
                  rw [List.all_eq_true] at ha
                  have := ha n (by rw [HN.out]; exact List.getElem_mem hlt)
                  rw [hm'] at this; cases this
                simp [pkList, pkListOk, this]
              simp only [Prod.mk.injEq] at hz
              obtain ⟨rfl, rfl⟩ := hz
              clear hm hm' HH
              go_wp2_with (first | (go_at_call 40; (with_reducible refine (pack_put.no _ n a2 HM.out _).mono ?_); rintro e w2 ⟨rfl, rfl⟩))
              simp only [Exit.then, Exit.inBlock, bodyPostD]
              exact list_tail_no w _ _ _ c6 f6 c7 f7 HSi.out HBi.out rfl rfl
          · have hie : i = l1.length := by omega
            subst hie
            have hb0 : decide ((l1.length : Int) < (l1.length : Int)) = false := decide_eq_false (by omega)
            have hb1 : decide (l1.length < l1.length) = false := decide_eq_false (by omega)
            have hz : (r1, r2) = (z ++ pkAll a2 (l1.take l1.length), 0) := by
              rw [← HH.out]
              rw [List.take_length] at hi3 ⊢
              have := H255.out
              simp [pkList, pkListOk, HK.out, this, hi3, HZ.out]
            simp only [Prod.mk.injEq] at hz
            obtain ⟨hacc, rfl⟩ := hz
            rw [← hacc] at c6 HRi HJ
            clear hi1 hi2 hi3 hRi hBi hSi hacc HH HA h
            go_wp2
            simp only [bodyPostD]
            refine leaves_cons (f := 37) (args := #[.pointer (some ⟨w.heap.size + 1, 0, none⟩), .func (Fn.func 38) #[] #[.pointer (some ⟨w.heap.size, 0, none⟩)]]) (by simp) (by simp [go_sem]) ?_
            refine (pack_told.idle _ _ _).mono ?_
            rintro e u' w' ⟨rfl, rfl, rfl⟩
            have hs : settle .returning = .returning := rfl
            simp only [hs]
            refine ⟨.tuple #[.slice Ai r1.length ci, .int .i64 0], ?_, _, rfl, ?_, ?_⟩
            · refine list_two _ _ _ _ _ _ rfl rfl ?_ (World.cell?_setCell_same _ _ _ (u := .int .i64 0) (by rw [World.cell?_setCell_other _ _ _ _ (by simp)]; exact c7))
              rw [World.cell?_setCell_other _ _ _ _ (by simp)]
              exact World.cell?_setCell_same _ _ _ c6
            · exact Kd.R_mono (Kd.R_far (Kd.R_far HRi.out (fun k hk => by simp; omega) _) (fun k hk => by simp; omega) _) (fun _ _ => trivial)
            · exact (HBi.out.setCell (p := ⟨w.heap.size, 0, none⟩) (Nat.le_refl _) _).setCell (p := ⟨w.heap.size + 1, 0, none⟩) (by simp) _
      · have hmay : pkMay (l1.length : Int) 1 = false := by simp [pkMay]; omega
        have HP := Aside0.mk hmay
        have hz : (r1, r2) = ([], 40) := by rw [← h]; simp [pkList, pkListOk, h255]
        simp only [Prod.mk.injEq] at hz
        obtain ⟨rfl, rfl⟩ := hz
        clear hmay h255 h
        go_enter_defers Try.func22, Try.ntmps22
        go_wp2_with (first | (go_at_call 39; (with_reducible refine (pack_bits.ok a2 HK.out _).mono ?_); rintro e w' ⟨rfl, rfl⟩) | (go_at_call 35; (with_reducible refine (slices_Clone_byte_byte.calls _ _ l0 l0 _ ?s1 HC0.out HCF.out).mono ?_); (case s1 => repeat (first | exact HR0.out | (with_reducible refine Kd.C_alloc ?_ _))); rintro e w1 ⟨v1, rfl, hR1, hb1⟩; have HQ1 := Aside0.mk hR1; have HB1 := Aside0.mk hb1; clear hR1 hb1) | (go_at_call 40; (with_reducible refine (pack_put.no _ _ 1 HP.out _).mono ?_); rintro e w2 ⟨rfl, rfl⟩))
        have hb1 := HB1.out
        have c6 : w1.cell? ⟨w.heap.size, 0, none⟩ = some (.slice none 0 0) := by rw [hb1.cell (by simp; omega)]; exact tc_a _ _ _ _ _
        have f6 : w1.frozen? ⟨w.heap.size, 0, none⟩ = false := by rw [hb1.frozen (by simp; omega)]; exact tf_a _ _ _ _ _
        have c7 : w1.cell? ⟨w.heap.size + 1, 0, none⟩ = some (.int .i64 0) := by rw [hb1.cell (by simp)]; exact tc_b _ _ _ _ _
        have f7 : w1.frozen? ⟨w.heap.size + 1, 0, none⟩ = false := by rw [hb1.frozen (by simp)]; exact tf_b _ _ _ _ _
        have z1 : w.heap.size + 2 ≤ w1.heap.size := by have := hb1.size; simp at this; omega
        have hb : Below w.heap.size w w1 := (below_alloc (below_alloc (Below.refl _ _) _) _).trans (hb1.mono (by simp; omega))
        simp only [bodyPostD]
        exact list_tail_no w _ _ _ c6 f6 c7 f7 z1 hb rfl rfl
    · have hk' : okSize a2 = false := by simpa using hk
      have HK := Aside0.mk hk'
      have hz : (r1, r2) = ([], 40) := by rw [← h]; simp [pkList, pkListOk, hk']
      simp only [Prod.mk.injEq] at hz
      obtain ⟨rfl, rfl⟩ := hz
      clear hk hk' h
      go_enter_defers Try.func22, Try.ntmps22
      go_wp2_with (first | (go_at_call 39; (with_reducible refine (pack_bits.no a2 HK.out _).mono ?_); rintro e w' ⟨rfl, rfl⟩))
      simp only [bodyPostD]
      exact list_tail_no w _ _ _ (tc_a _ _ _ _ _) (tf_a _ _ _ _ _) (tc_b _ _ _ _ _) (tf_b _ _ _ _ _) (by simp) (below_alloc (below_alloc (Below.refl _ _) _) _) rfl rfl
  · rw [if_neg hl] at h; cases h


end Go.Proofs.Ytfoffgbhfokccaa.A
