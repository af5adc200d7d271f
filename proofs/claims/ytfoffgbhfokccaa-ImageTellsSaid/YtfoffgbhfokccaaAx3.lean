/- Lean functions that answer as the Go functions do, and the proofs that they do; no conditions. Written by this session's own driver: a scratch copy of the kit's print with the session's additions (wip/xprint). -/
import Derived.Test.YtfoffgbhfokccaaAx0
import Derived.Test.YtfoffgbhfokccaaAx1
import Derived.Test.YtfoffgbhfokccaaAx2
namespace Go.Proofs.Ytfoffgbhfokccaa.A
open Go.RowKit Go.Proofs.YtfoffgbhfokccaaW.PrintWords Go.Proofs.YtfoffgbhfokccaaW.PrintLast Go.Proofs.YtfoffgbhfokccaaW.PrintMore
attribute [local go_sem] max2_int min2_int max_two min_two max_three min_three max_four min_four   -- for this text's walks alone
set_option linter.unusedVariables false
set_option linter.unusedSimpArgs false

/-! ### pack_List: function 22 (given) -/
/-- Numbers' bytes, one behind the other. -/
def pkAll (size : Int) : List Int → List Int
  | [] => []
  | n :: l => pkBytes size.toNat n ++ pkAll size l
def pkListOk (l1 : List Int) (a2 : Int) : Bool := okSize a2 && decide (l1.length ≤ 255) && l1.all fun n => pkMay n a2
/-- What a list is put as. -/
def pkList (l0 l1 : List Int) (a2 : Int) : List Int × Int := if pkListOk l1 a2 = true then (l0 ++ ((l1.length : Int) :: pkAll a2 l1), 0) else ([], 40)
def pack_List.f (l0 l1 : List Int) (a2 : Int) : Option (List Int × Int) := if l0.length + 8 * l1.length + 20 < 140737488355328 then some (pkList l0 l1 a2) else none
theorem pkBytes_length (m : Nat) (n : Int) : (pkBytes m n).length = m := by
  induction m with
  | zero => rfl
  | succ m ih => simp [pkBytes, ih]
theorem pkAll_snoc (size : Int) (l : List Int) (n : Int) : pkAll size (l ++ [n]) = pkAll size l ++ pkBytes size.toNat n := by
  induction l with
  | nil => simp [pkAll]
  | cons a l ih => simp [pkAll, ih]
theorem pkAll_length (size : Int) (l : List Int) : (pkAll size l).length = size.toNat * l.length := by
  induction l with
  | nil => simp [pkAll]
  | cons a l ih => simp [pkAll, ih, pkBytes_length, Nat.mul_add]; omega
theorem okSize_cases {n : Int} (h : okSize n = true) : n = 1 ∨ n = 2 ∨ n = 8 := by simpa [okSize, or_assoc] using h
theorem list_nil_ok (p : Addr) (x : Value) (w : World) (hc : w.cell? p = some x) (hf : w.frozen? p = false) :
    Calls Try.prog 38 #[.pointer (some p)] w fun e w' => e = .returned (.tuple #[]) ∧ w.setCell p (.slice none 0 0) = w' := by
  go_enter Try.func38, Try.ntmps38
  go_wp2
  go_end0
  exact ⟨rfl, rfl⟩
theorem list_two (tm : Array Value) (W : World) (a b : Addr) (x y : Value) (t6 : tm[6]?.getD undef = .pointer (some a)) (t7 : tm[7]?.getD undef = .pointer (some b)) (k6 : W.cell? a = some x) (k7 : W.cell? b = some y) :
    (results Try.f22 tm).run Try.prog W = .ok (.tuple #[x, y]) W := by
  simp [results, Try.results22, go_sem, t6, t7, k6, k7]
theorem list_tail_no (w w1 : World) (x : Value) (tm : Array Value) (c6 : w1.cell? ⟨w.heap.size, 0, none⟩ = some x) (f6 : w1.frozen? ⟨w.heap.size, 0, none⟩ = false)
    (c7 : w1.cell? ⟨w.heap.size + 1, 0, none⟩ = some (.int .i64 0)) (f7 : w1.frozen? ⟨w.heap.size + 1, 0, none⟩ = false) (z1 : w.heap.size + 2 ≤ w1.heap.size) (hb : Below w.heap.size w w1)
    (t6 : tm[6]?.getD undef = .pointer (some ⟨w.heap.size, 0, none⟩)) (t7 : tm[7]?.getD undef = .pointer (some ⟨w.heap.size + 1, 0, none⟩)) :
    Leaves Try.prog Try.f22 tm (fun e w' => ∃ v0_ : Value, e = .returned (.tuple #[v0_, .int .i64 40]) ∧ Kd.R (Kd.int .u8) 5 w' w.heap.size (fun _ => True) v0_ [] ∧ Below w.heap.size w w')
      [{ target := Target.fn (Fn.func 37) #[], args := #[.pointer (some ⟨w.heap.size + 1, 0, none⟩), .func (Fn.func 38) #[] #[.pointer (some ⟨w.heap.size, 0, none⟩)]] }] (.panicking [wrongE]) w1 := by
  have hlt : w.heap.size < w1.heap.size := by omega
  have hlt2 : w.heap.size + 1 < w1.heap.size := by omega
  refine leaves_cons (f := 37) (args := #[.pointer (some ⟨w.heap.size + 1, 0, none⟩), .func (Fn.func 38) #[] #[.pointer (some ⟨w.heap.size, 0, none⟩)]]) (by simp) (by simp [go_sem]) ?_
  refine (pack_told.wrong ⟨w.heap.size + 1, 0, none⟩ 38 #[.pointer (some ⟨w.heap.size, 0, none⟩)] (.int .i64 0) [] w1 (fun w2 => (w1.alloc (.cells #[] 65)).setCell ⟨w.heap.size, 0, none⟩ (.slice none 0 0) = w2) (fun W => by simp [go_sem]) ?_).mono ?_
  · refine (list_nil_ok ⟨w.heap.size, 0, none⟩ x _ (by rw [World.cell?_alloc_lt _ _ _ hlt]; exact c6) (by rw [World.frozen?_alloc_old _ _ _ (Nat.ne_of_lt hlt)]; exact f6)).mono ?_
    rintro e w' ⟨rfl, rfl⟩
    refine ⟨rfl, rfl, ?_, ?_⟩
    · rw [World.cell?_setCell_other _ _ _ _ (by simp), World.cell?_alloc_lt _ _ _ hlt2]; exact c7
    · rw [World.frozen?_setCell, World.frozen?_alloc_old _ _ _ (Nat.ne_of_lt hlt2)]; exact f7
  · rintro e u' w' ⟨rfl, rfl, w2, rfl, rfl⟩
    have hs : settle (.panicking [wrongR]) = .returning := rfl
    simp only [hs]
    refine ⟨.tuple #[.slice none 0 0, .int .i64 40], ?_, .slice none 0 0, rfl, Kd.R_nil _ _ _ _ _, ?_⟩
    · refine list_two _ _ _ _ _ _ t6 t7 ?_ ?_
      · rw [World.cell?_setCell_other _ _ _ _ (by simp)]
        exact World.cell?_setCell_same _ _ _ (u := x) (by rw [World.cell?_alloc_lt _ _ _ hlt]; exact c6)
      · exact World.cell?_setCell_same _ _ _ (u := .int .i64 0) (by rw [World.cell?_setCell_other _ _ _ _ (by simp), World.cell?_alloc_lt _ _ _ hlt2]; exact c7)
    · exact ((hb.alloc (by omega) _).setCell (p := ⟨w.heap.size, 0, none⟩) (Nat.le_refl _) _).setCell (p := ⟨w.heap.size + 1, 0, none⟩) (by simp) _
/-- What holds at each round's head: the two variables in memory, and the row that the first one holds. -/
def ListInv (w : World) (A : Option Addr) (c : Nat) (acc : List Int) (W : World) : Prop :=
  W.cell? ⟨w.heap.size, 0, none⟩ = some (.slice A acc.length c) ∧ W.frozen? ⟨w.heap.size, 0, none⟩ = false ∧ W.cell? ⟨w.heap.size + 1, 0, none⟩ = some (.int .i64 0) ∧ W.frozen? ⟨w.heap.size + 1, 0, none⟩ = false ∧
  Kd.R (Kd.int .u8) 5 W w.heap.size (fun k => w.heap.size + 2 ≤ k) (.slice A acc.length c) acc ∧ Below w.heap.size w W ∧ w.heap.size + 2 ≤ W.heap.size
/-- A round: what was appended is stored. -/
theorem ListInv.next {w : World} {A A2 : Option Addr} {c c2 : Nat} {acc acc2 : List Int} {W W2 : World} (h : ListInv w A c acc W) (hk : Kept W W2 (fun k => w.heap.size + 2 ≤ k)) (hb : Below w.heap.size w W2)
    (hR : Kd.R (Kd.int .u8) 5 W2 w.heap.size (fun k => w.heap.size + 2 ≤ k ∨ W.heap.size ≤ k) (.slice A2 acc2.length c2) acc2) : ListInv w A2 c2 acc2 (W2.setCell ⟨w.heap.size, 0, none⟩ (.slice A2 acc2.length c2)) := by
  obtain ⟨h1, h2, h3, h4, h5, h6, h7⟩ := h
  have b0 : W2.heap[w.heap.size]? = W.heap[w.heap.size]? := hk.2 _ (by omega) (by omega)
  have b1 : W2.heap[w.heap.size + 1]? = W.heap[w.heap.size + 1]? := hk.2 _ (by omega) (by omega)
  have q0 : W2.cell? ⟨w.heap.size, 0, none⟩ = W.cell? ⟨w.heap.size, 0, none⟩ := World.cell?_of_block b0
  refine ⟨World.cell?_setCell_same _ _ _ (q0.trans h1), ?_, ?_, ?_, ?_, hb.setCell (p := ⟨w.heap.size, 0, none⟩) (Nat.le_refl _) _, ?_⟩
  · rw [World.frozen?_setCell]; exact (World.frozen?_of_block b0).trans h2
  · rw [World.cell?_setCell_other _ _ _ _ (by simp)]; exact (World.cell?_of_block b1).trans h3
  · rw [World.frozen?_setCell]; exact (World.frozen?_of_block b1).trans h4
  · exact Kd.R_far (Kd.R_mono hR (fun k hk => by rcases hk with hk | hk <;> omega)) (fun k hk => by simp; omega) _
  · have := hk.1; simp; omega
theorem all_take {l : List Int} {p : Int → Bool} {i : Nat} (h : i < l.length) : (l.take (i + 1)).all p = ((l.take i).all p && p l[i]) := by
  rw [List.take_add_one, List.getElem?_eq_getElem h, List.all_append, Option.toList_some, List.all_cons, List.all_nil, Bool.and_true]
set_option maxHeartbeats 8000000 in
set_option maxRecDepth 100000 in
theorem pack_List.calls (A0 : Option Addr) (c0 : Nat) (l0 : List Int) (A1 : Option Addr) (c1 : Nat) (l1 : List Int) (a2 : Int) (r1 : List Int) (r2 : Int) (w : World) (hr0 : Kd.C (Kd.int .u8) w A0 l0.length l0) (hc0 : l0.length ≤ c0)
    (hr1 : Kd.C (Kd.int .i64) w A1 l1.length l1) (hc1 : l1.length ≤ c1) (h : pack_List.f l0 l1 a2 = some (r1, r2)) :
    Calls Try.prog 22 #[.slice A0 l0.length c0, .slice A1 l1.length c1, .int .i64 a2] w fun e w' => ∃ v0_ : Value, e = .returned (.tuple #[v0_, .int .i64 r2]) ∧ Kd.R (Kd.int .u8) 5 w' w.heap.size (fun _ => True) v0_ r1 ∧ Below w.heap.size w w' := by
  unfold pack_List.f at h
  by_cases hl : l0.length + 8 * l1.length + 20 < 140737488355328
  · rw [if_pos hl] at h
    have h := Option.some.inj h
    have HL := Aside0.mk hl
    have HR0 := Aside0.mk hr0
    have HC0 := Aside0.mk hc0
    have HR1 := Aside0.mk hr1
    have HC1 := Aside0.mk hc1
    have hcf : slices_Clone_byte_byte.f l0 = some l0 := by unfold slices_Clone_byte_byte.f; rw [if_pos (by omega)]
    have HCF := Aside0.mk hcf
    clear hr0 hc0 hr1 hc1 hcf hl
    have hmf : ∀ (fn : Fn) (first cap : Array Value) (W : World), (Instr.makeFunc fn first cap).run Try.prog W = .ok (.func fn first cap) W := fun _ _ _ _ => rfl
    by_cases hk : okSize a2 = true
    · have HK := Aside0.mk hk
      clear hk
      by_cases h255 : l1.length ≤ 255
      · have H255 := Aside0.mk h255
        have hmay : pkMay (l1.length : Int) 1 = true := by simp [pkMay]; omega
        have HP := Aside0.mk (put_f l0 (l1.length : Int) 1 hmay (by have := HL.out; omega) 12 (Nat.le_refl _))
        clear h255 hmay
        have HH := Aside0.mk h
        clear h
        obtain ⟨z, hz⟩ : ∃ z : List Int, z = l0 ++ [(l1.length : Int)] := ⟨_, rfl⟩
        have hz2 : l0 ++ pkBytes (1 : Int).toNat (l1.length : Int) = z := by rw [hz]; have := H255.out; simp [pkBytes]; omega
        rw [hz2] at HP
        have HZ := Aside0.mk hz
        have HZL := Aside0.mk (show z.length = l0.length + 1 by rw [hz]; simp)
        clear hz hz2
        go_enter_defers Try.func22, Try.ntmps22
        go_wp2_with (first | (go_at_call 39; (with_reducible refine (pack_bits.ok a2 HK.out _).mono ?_); rintro e w' ⟨rfl, rfl⟩) | (go_at_call 35; (with_reducible refine (slices_Clone_byte_byte.calls _ _ l0 l0 _ ?s1 HC0.out HCF.out).mono ?_); (case s1 => repeat (first | exact HR0.out | (with_reducible refine Kd.C_alloc ?_ _))); rintro e w1 ⟨v1, rfl, hR1, hb1⟩; have HQ1 := Aside0.mk hR1; have HB1 := Aside0.mk hb1; clear hR1 hb1) | (go_at_call 40; (with_reducible refine (pack_put.calls 12 (fun _ => True) v1 l0 (l1.length : Int) 1 z _ _ HB1.out HQ1.out HP.out).mono ?_); rintro e w2 ⟨v2, rfl, hR2, hb2, hk2⟩; clear hk2; have c6 : w2.cell? ⟨w.heap.size, 0, none⟩ = some (.slice none 0 0) := (by rw [hb2.cell (by simp; omega)]; exact tc_a _ _ _ _ _); have f6 : w2.frozen? ⟨w.heap.size, 0, none⟩ = false := (by rw [hb2.frozen (by simp; omega)]; exact tf_a _ _ _ _ _); have c7 : w2.cell? ⟨w.heap.size + 1, 0, none⟩ = some (.int .i64 0) := (by rw [hb2.cell (by simp)]; exact tc_b _ _ _ _ _); have f7 : w2.frozen? ⟨w.heap.size + 1, 0, none⟩ = false := (by rw [hb2.frozen (by simp)]; exact tf_b _ _ _ _ _); obtain ⟨Ao2, co2, eo2⟩ := Kd.R_slice hR2; subst eo2; have HR2 := Aside0.mk hR2; have HB2 := Aside0.mk hb2; clear hR2 hb2))
        generalize hW6 : World.setCell _ _ _ = W6
        have hI : ListInv w Ao2 co2 (z ++ pkAll a2 (l1.take 0)) W6 := by
          have hb : Below w.heap.size w w2 := (below_alloc (below_alloc (Below.refl _ _) _) _).trans (HB2.out.mono (by simp; omega))
          have hz : z ++ pkAll a2 (l1.take 0) = z := by simp [pkAll]
          have hsz := HB2.out.size
          simp only [World.size_alloc] at hsz
          have r1 := Kd.R_bound HR2.out
          rw [hz, ← hW6]
          refine ⟨World.cell?_setCell_same _ _ _ c6, ?_, ?_, ?_, ?_, hb.setCell (p := ⟨w.heap.size, 0, none⟩) (Nat.le_refl _) _, ?_⟩
          · rw [World.frozen?_setCell]; exact f6
          · rw [World.cell?_setCell_other _ _ _ _ (by simp)]; exact c7
          · rw [World.frozen?_setCell]; exact f7
          · exact Kd.R_far (Kd.R_lower (Kd.R_mono r1 (fun k hk => by have := hk.2.1; simp at this; omega)) (by simp; omega)) (fun k hk => by simp; omega) _
          · simp; omega
        have HI := Aside0.mk hI
        clear hW6 hI c6 f6 c7 f7
        go_loopg [20] (l1.length + 1) (fun kq v20 w' => ∃ (i : Nat) (A : Option Addr) (c : Nat), v20 = .int .i64 (i : Int) ∧ Aside0 (i ≤ l1.length ∧ l1.length - i < kq ∧ (l1.take i).all (fun n => pkMay n a2) = true) ∧ Aside0 (ListInv w A c (z ++ pkAll a2 (l1.take i)) w'))
        case atStart => exact ⟨0, Ao2, co2, rfl, ⟨by omega, by omega, by simp⟩, HI⟩
        case round =>
          obtain ⟨i, Ai, ci, rfl, HA, HJ⟩ := hrel
          obtain ⟨hi1, hi2, hi3⟩ := HA.out
          obtain ⟨c6, f6, c7, f7, hRi, hBi, hSi⟩ := HJ.out
          have HRi := Aside0.mk hRi
          have HBi := Aside0.mk hBi
          have HSi := Aside0.mk hSi
          by_cases hlt : i < l1.length
          · have p0 : (0 : Int) ≤ (i : Int) := by omega
            have q0 : (i : Int) < (l1.length : Int) := by omega
            have hC := Kd.C_below HR1.out hBi
            obtain ⟨ad, he, hx⟩ := Kd.at_int hC (i : Int) p0 q0
            cases he
            rw [Int.toNat_natCast] at hx
            have hb0 : decide ((i : Int) < (l1.length : Int)) = true := decide_eq_true q0
            have hb1 : decide (i < l1.length) = true := decide_eq_true hlt
            have hrd : rd l1 (i : Int) = l1[i] := by unfold rd; simp [List.getD_eq_getElem?_getD, hlt]
            rw [hrd] at hx
            obtain ⟨n, hn⟩ : ∃ n, n = l1[i] := ⟨_, rfl⟩
            rw [← hn] at hx
            have p1 := eq_true p0
            have q1 := eq_true q0
            have HLT := Aside0.mk hlt
            have HN := Aside0.mk hn
            obtain ⟨acc, hacc⟩ : ∃ acc, acc = z ++ pkAll a2 (l1.take i) := ⟨_, rfl⟩
            have hal : acc.length ≤ z.length + 8 * l1.length := by
              have := okSize_cases HK.out
              rw [hacc, List.length_append, pkAll_length, List.length_take]
              have hm : a2.toNat * min i l1.length ≤ 8 * l1.length := Nat.mul_le_mul (by omega) (by omega)
              omega
            have HAL := Aside0.mk hal
            rw [← hacc] at c6 HRi HJ
            have HACC := Aside0.mk hacc
            clear p0 q0 hn hrd hC hacc hal hi1 hi2 hi3 hRi hBi hSi
            by_cases hm : pkMay n a2 = true
            · have hpf := put_f acc n a2 hm (by have := HAL.out; have := HL.out; have := HZL.out; omega) 12 (Nat.le_refl _)
              obtain ⟨acc2, hacc2⟩ : ∃ acc2, acc2 = acc ++ pkBytes a2.toNat n := ⟨_, rfl⟩
              rw [← hacc2] at hpf
              have HPF := Aside0.mk hpf
              have HM := Aside0.mk hm
              have HACC2 := Aside0.mk hacc2
              clear hpf hm hacc2
              go_wp2_with (first | (go_at_call 40; (with_reducible refine (pack_put.calls 12 (fun k => w.heap.size + 2 ≤ k) _ acc n a2 acc2 w _ HBi.out HRi.out HPF.out).mono ?_); rintro e w2 ⟨v2, rfl, hR2, hb2, hk2⟩; have j6 : w2.cell? ⟨w.heap.size, 0, none⟩ = some (.slice Ai acc.length ci) := ((World.cell?_of_block (hk2.2 w.heap.size (by have := HSi.out; omega) (by omega))).trans c6); have y6 : w2.frozen? ⟨w.heap.size, 0, none⟩ = false := ((World.frozen?_of_block (hk2.2 w.heap.size (by have := HSi.out; omega) (by omega))).trans f6); obtain ⟨Ao5, co5, eo5⟩ := Kd.R_slice hR2; subst eo5; have HR5 := Aside0.mk hR2; have HB5 := Aside0.mk hb2; have HK5 := Aside0.mk hk2; clear hR2 hb2 hk2))
              go_roundg (gk - 1)
              case measure => obtain ⟨hi1, hi2, hi3⟩ := HA.out; omega
              case rel =>
                obtain ⟨hi1, hi2, hi3⟩ := HA.out
                have hlt := HLT.out
                have g1 : i + 1 ≤ l1.length := by omega
                have g2 : l1.length - (i + 1) < gk - 1 := by omega
                have g3 : (l1.take (i + 1)).all (fun n => pkMay n a2) = true := by rw [all_take hlt, hi3, ← HN.out, HM.out]; rfl
                have g4 : acc2 = z ++ pkAll a2 (l1.take (i + 1)) := by
                  rw [HACC2.out, HACC.out, HN.out, List.take_add_one, List.getElem?_eq_getElem hlt, Option.toList_some, pkAll_snoc, List.append_assoc]
                have hlen : l1.length ≤ 255 := H255.out
                have hw : wrap64 ((i : Int) + 1) = ((i + 1 : Nat) : Int) := wof (by omega) (by omega)
                refine ⟨i + 1, Ao5, co5, by rw [hw], ⟨g1, g2, g3⟩, ?_⟩
                rw [← g4]
                exact ⟨ListInv.next HJ.out HK5.out HB5.out HR5.out⟩
            · have hm' : pkMay n a2 = false := by simpa using hm
              have HM := Aside0.mk hm'
              have hz : (r1, r2) = ([], 40) := by
                rw [← HH.out]
                have hlt := HLT.out
                have : (l1.all fun n => pkMay n a2) = false := by
                  rw [Bool.eq_false_iff]; intro ha
                  rw [List.all_eq_true] at ha
                  have := ha n (by rw [HN.out]; exact List.getElem_mem hlt)
                  rw [hm'] at this; cases this
                simp [pkList, pkListOk, this]
              simp only [Prod.mk.injEq] at hz
              obtain ⟨rfl, rfl⟩ := hz
              clear hm hm' HH
              go_wp2_with (first | (go_at_call 40; (with_reducible refine (pack_put.no _ n a2 HM.out _).mono ?_); rintro e w2 ⟨rfl, rfl⟩))
              simp only [Exit.then, Exit.inBlock, bodyPostD]
              exact list_tail_no w _ _ _ c6 f6 c7 f7 HSi.out HBi.out rfl rfl
          · have hie : i = l1.length := by omega
            subst hie
            have hb0 : decide ((l1.length : Int) < (l1.length : Int)) = false := decide_eq_false (by omega)
            have hb1 : decide (l1.length < l1.length) = false := decide_eq_false (by omega)
            have hz : (r1, r2) = (z ++ pkAll a2 (l1.take l1.length), 0) := by
              rw [← HH.out]
              rw [List.take_length] at hi3 ⊢
              have := H255.out
              simp [pkList, pkListOk, HK.out, this, hi3, HZ.out]
            simp only [Prod.mk.injEq] at hz
            obtain ⟨hacc, rfl⟩ := hz
            rw [← hacc] at c6 HRi HJ
            clear hi1 hi2 hi3 hRi hBi hSi hacc HH HA h
            go_wp2
            simp only [bodyPostD]
            refine leaves_cons (f := 37) (args := #[.pointer (some ⟨w.heap.size + 1, 0, none⟩), .func (Fn.func 38) #[] #[.pointer (some ⟨w.heap.size, 0, none⟩)]]) (by simp) (by simp [go_sem]) ?_
            refine (pack_told.idle _ _ _).mono ?_
            rintro e u' w' ⟨rfl, rfl, rfl⟩
            have hs : settle .returning = .returning := rfl
            simp only [hs]
            refine ⟨.tuple #[.slice Ai r1.length ci, .int .i64 0], ?_, _, rfl, ?_, ?_⟩
            · refine list_two _ _ _ _ _ _ rfl rfl ?_ (World.cell?_setCell_same _ _ _ (u := .int .i64 0) (by rw [World.cell?_setCell_other _ _ _ _ (by simp)]; exact c7))
              rw [World.cell?_setCell_other _ _ _ _ (by simp)]
              exact World.cell?_setCell_same _ _ _ c6
            · exact Kd.R_mono (Kd.R_far (Kd.R_far HRi.out (fun k hk => by simp; omega) _) (fun k hk => by simp; omega) _) (fun _ _ => trivial)
            · exact (HBi.out.setCell (p := ⟨w.heap.size, 0, none⟩) (Nat.le_refl _) _).setCell (p := ⟨w.heap.size + 1, 0, none⟩) (by simp) _
      · have hmay : pkMay (l1.length : Int) 1 = false := by simp [pkMay]; omega
        have HP := Aside0.mk hmay
        have hz : (r1, r2) = ([], 40) := by rw [← h]; simp [pkList, pkListOk, h255]
        simp only [Prod.mk.injEq] at hz
        obtain ⟨rfl, rfl⟩ := hz
        clear hmay h255 h
        go_enter_defers Try.func22, Try.ntmps22
        go_wp2_with (first | (go_at_call 39; (with_reducible refine (pack_bits.ok a2 HK.out _).mono ?_); rintro e w' ⟨rfl, rfl⟩) | (go_at_call 35; (with_reducible refine (slices_Clone_byte_byte.calls _ _ l0 l0 _ ?s1 HC0.out HCF.out).mono ?_); (case s1 => repeat (first | exact HR0.out | (with_reducible refine Kd.C_alloc ?_ _))); rintro e w1 ⟨v1, rfl, hR1, hb1⟩; have HQ1 := Aside0.mk hR1; have HB1 := Aside0.mk hb1; clear hR1 hb1) | (go_at_call 40; (with_reducible refine (pack_put.no _ _ 1 HP.out _).mono ?_); rintro e w2 ⟨rfl, rfl⟩))
        have hb1 := HB1.out
        have c6 : w1.cell? ⟨w.heap.size, 0, none⟩ = some (.slice none 0 0) := by rw [hb1.cell (by simp; omega)]; exact tc_a _ _ _ _ _
        have f6 : w1.frozen? ⟨w.heap.size, 0, none⟩ = false := by rw [hb1.frozen (by simp; omega)]; exact tf_a _ _ _ _ _
        have c7 : w1.cell? ⟨w.heap.size + 1, 0, none⟩ = some (.int .i64 0) := by rw [hb1.cell (by simp)]; exact tc_b _ _ _ _ _
        have f7 : w1.frozen? ⟨w.heap.size + 1, 0, none⟩ = false := by rw [hb1.frozen (by simp)]; exact tf_b _ _ _ _ _
        have z1 : w.heap.size + 2 ≤ w1.heap.size := by have := hb1.size; simp at this; omega
        have hb : Below w.heap.size w w1 := (below_alloc (below_alloc (Below.refl _ _) _) _).trans (hb1.mono (by simp; omega))
        simp only [bodyPostD]
        exact list_tail_no w _ _ _ c6 f6 c7 f7 z1 hb rfl rfl
    · have hk' : okSize a2 = false := by simpa using hk
      have HK := Aside0.mk hk'
      have hz : (r1, r2) = ([], 40) := by rw [← h]; simp [pkList, pkListOk, hk']
      simp only [Prod.mk.injEq] at hz
      obtain ⟨rfl, rfl⟩ := hz
      clear hk hk' h
      go_enter_defers Try.func22, Try.ntmps22
      go_wp2_with (first | (go_at_call 39; (with_reducible refine (pack_bits.no a2 HK.out _).mono ?_); rintro e w' ⟨rfl, rfl⟩))
      simp only [bodyPostD]
      exact list_tail_no w _ _ _ (tc_a _ _ _ _ _) (tf_a _ _ _ _ _) (tc_b _ _ _ _ _) (tf_b _ _ _ _ _) (by simp) (below_alloc (below_alloc (Below.refl _ _) _) _) rfl rfl
  · rw [if_neg hl] at h; cases h


/-! ### image_Put: function 11 -/
def image_Put.l0 : Nat → List Int → List Int → Int → Int → Option (List Int × Int)
  | 0, _, _, _, _ => none
  | k + 1, x6, x21, x22, x23 => if x23 < x22 then (if 0 ≤ x23 then (if x23 < (x21.length : Int) then ((pack_Put.f x6 (rd x21 x23) 8).bind fun bt118 => (image_Put.l0 k bt118.1 x21 x22 (wrap64 (x23 + 1)))) else (none)) else (none)) else (some (x6, 0))
def image_Put.f (k : Nat) (l0 : List Int) (l1_0 : List Int) (l1_1 : List Int) : Option (List Int × Int) := (tensor_Check.f k l1_0 l1_1).bind fun t112 => (if t112 = true then ((pack_List.f l0 l1_0 1).bind fun bt113 => (image_Put.l0 k bt113.1 l1_1 (l1_1.length : Int) 0)) else (some (([] : List Int), 30)))
theorem image_Put.mono_l : ∀ k, (∀ y0 y1 y2 y3, LeO (image_Put.l0 k y0 y1 y2 y3) (image_Put.l0 (k + 1) y0 y1 y2 y3))
  | 0 => fun _ _ _ _ r h => by simp [image_Put.l0] at h
  | k + 1 => by
    have ih0 := image_Put.mono_l k
    · intro y0 y1 y2 y3
      unfold image_Put.l0
      repeat' first
      | (with_reducible exact ih0 _ _ _ _)
      | (with_reducible exact tensor_Check.mono _ _ _)
      | (with_reducible exact LeO.refl _)
      | (with_reducible exact LeO.none _)
      | (with_reducible refine LeO.ite ?_ ?_)
      | (with_reducible refine LeO.bind ?_ (fun _ => ?_))
      | exact ih0 _ _ _ _
      | exact tensor_Check.mono _ _ _
      | exact LeO.none _
      | refine LeO.ite ?_ ?_
      | refine LeO.bind ?_ (fun _ => ?_)
theorem image_Put.mono : ∀ a0 a1 a2 k, LeO (image_Put.f k a0 a1 a2) (image_Put.f (k + 1) a0 a1 a2) := by
  intro a0 a1 a2 k
  have ih0 := image_Put.mono_l k
  unfold image_Put.f
  repeat' first
      | (with_reducible exact ih0 _ _ _ _)
      | (with_reducible exact tensor_Check.mono _ _ _)
      | (with_reducible exact LeO.refl _)
      | (with_reducible exact LeO.none _)
      | (with_reducible refine LeO.ite ?_ ?_)
      | (with_reducible refine LeO.bind ?_ (fun _ => ?_))
      | exact ih0 _ _ _ _
      | exact tensor_Check.mono _ _ _
      | exact LeO.none _
      | refine LeO.ite ?_ ?_
      | refine LeO.bind ?_ (fun _ => ?_)
set_option maxHeartbeats 8000000 in
set_option maxRecDepth 100000 in
theorem image_Put.calls (k : Nat) (A0 : Option Addr) (c0 : Nat) (l0 : List Int) (A1_0 : Option Addr) (c1_0 : Nat) (l1_0 : List Int) (A1_1 : Option Addr) (c1_1 : Nat) (l1_1 : List Int) (r1 : List Int) (r2 : Int) (w : World) (hr0 : Kd.C (Kd.int .u8) w A0 l0.length l0) (hc0 : l0.length ≤ c0) (hr1_0 : Kd.C (Kd.int .i64) w A1_0 l1_0.length l1_0) (hc1_0 : l1_0.length ≤ c1_0) (hr1_1 : Kd.C (Kd.int .i64) w A1_1 l1_1.length l1_1) (hc1_1 : l1_1.length ≤ c1_1) (h : image_Put.f k l0 l1_0 l1_1 = some (r1, r2)) :
    Calls Try.prog 11 #[.slice A0 l0.length c0, .agg #[.slice A1_0 l1_0.length c1_0, .slice A1_1 l1_1.length c1_1]] w fun e w' => ∃ v0_ : Value, e = .returned (.tuple #[v0_, .int .i64 r2]) ∧ Kd.R (Kd.int .u8) 5 w' w.heap.size (fun _ => True) v0_ r1 ∧ Below w.heap.size w w' := by
  have hu26 := Try.underlying26
  have HR0 := Aside0.mk hr0
  have HC0 := Aside0.mk hc0
  clear hr0 hc0
  have HR1_0 := Aside0.mk hr1_0
  have HC1_0 := Aside0.mk hc1_0
  clear hr1_0 hc1_0
  have HR1_1 := Aside0.mk hr1_1
  have HC1_1 := Aside0.mk hc1_1
  clear hr1_1 hc1_1
  have HB := Aside0.mk (Below.refl w.heap.size w)
  have H : ((tensor_Check.f k l1_0 l1_1).bind fun t112 => (if t112 = true then ((pack_List.f l0 l1_0 1).bind fun bt113 => (image_Put.l0 k bt113.1 l1_1 (l1_1.length : Int) 0)) else (some (([] : List Int), 30)))) = some (r1, r2) := h
  clear h
  replace H := Option.bind_eq_some_iff.mp H
  obtain ⟨t112, A30, H⟩ := H
  replace H : (if t112 = true then ((pack_List.f l0 l1_0 1).bind fun bt113 => (image_Put.l0 k bt113.1 l1_1 (l1_1.length : Int) 0)) else (some (([] : List Int), 30))) = some (r1, r2) := H
  have A3 := Aside0.mk A30
  clear A30
  by_cases c4 : t112 = true
  · subst c4
    have H1 : ((pack_List.f l0 l1_0 1).bind fun bt113 => (image_Put.l0 k bt113.1 l1_1 (l1_1.length : Int) 0)) = some (r1, r2) := by rw [if_pos rfl] at H; exact H
    clear H
    have H := H1
    clear H1
    replace H := Option.bind_eq_some_iff.mp H
    obtain ⟨⟨t113, t114⟩, A50, H⟩ := H
    replace H : (image_Put.l0 k t113 l1_1 (l1_1.length : Int) 0) = some (r1, r2) := H
    have A5 := Aside0.mk A50
    clear A50
    have H' := Aside0.mk H
    clear H
    go_enter Try.func11, Try.ntmps11
    go_wp2_with (first | ((with_reducible refine gate_dst (N := 3) rfl ?_); refine box_event ?hg (N := 3) ?hd (cs := #[.slice A1_0 l1_0.length c1_0, .slice A1_1 l1_1.length c1_1]) (t := 26) ?hr ?_; (case hd => rfl); (case hg => rfl); (case hr => first | (go_simp; done) | (go_simp; rfl)); intro gb111 hg w6 hbox hb; have n0_ := Aside0.mk (below_step (bq0_ HB.out) hb); have n1_ := Aside0.mk (hbox); have n2_ := Aside0.mk ((by rw [hg]; exact (below_size (bq0_ HB.out)) : w.heap.size ≤ gb111)); have n3_ := Aside0.mk ((by rw [hg]; exact (below_size (bq0_ HB.out)) : w.heap.size ≤ gb111)); clear HB; have HB := n0_; have BK111 := n1_; have GW111 := n2_; have GE111 := n3_; clear n0_ n1_ n2_ n3_; clear hb hbox hg; have hcz7_0 : w6.cell? ⟨gb111, 0, none⟩ = some (.slice A1_0 l1_0.length c1_0) := (blk_cell BK111.out 0).trans rfl; have hcz7_1 : w6.cell? ⟨gb111, 1, none⟩ = some (.slice A1_1 l1_1.length c1_1) := (blk_cell BK111.out 1).trans rfl; have hfz7_0 := blk_frozen BK111.out 0; have hfz7_1 := blk_frozen BK111.out 1) | ((with_reducible refine gate_callee (f := 21) rfl ?_); refine goesL_ (some 11) rfl rfl Try.func21 (by kernel_rfl) rfl #[.agg #[.slice A1_0 l1_0.length c1_0, .slice A1_1 l1_1.length c1_1]] rfl (by (try simp only [List.map_toArray, List.map_cons, List.map_nil]); first | done | rfl | (simp only [List.length_drop, List.length_take]; rfl)) ?_; (with_reducible refine (tensor_Check.calls k _ _ l1_0 _ _ l1_1 true _ ?side1 ?side2 ?side3 ?side4 A3.out).mono ?_); (case side1 => exact mvC_ ((Kd.C_below HR1_0.out HB.out))); (case side2 => exact HC1_0.out); (case side3 => exact mvC_ ((Kd.C_below HR1_1.out HB.out))); (case side4 => exact HC1_1.out); rintro e w8 ⟨rfl, hb⟩; refine ⟨_, rfl, ?_⟩; have n0_ := Aside0.mk (blk_below (g := gb111) (o := .cells #[.slice A1_0 l1_0.length c1_0, .slice A1_1 l1_1.length c1_1] 26 (0, 0)) (mvK_ BK111.out) hb); have n1_ := Aside0.mk (below_step (bq1_ HB.out GE111.out) hb); clear BK111; clear HB; have BK111 := n0_; have HB := n1_; clear n0_ n1_; (try clear hb); have hcz9_0 : w8.cell? ⟨gb111, 0, none⟩ = some (.slice A1_0 l1_0.length c1_0) := (blk_cell BK111.out 0).trans rfl; have hcz9_1 : w8.cell? ⟨gb111, 1, none⟩ = some (.slice A1_1 l1_1.length c1_1) := (blk_cell BK111.out 1).trans rfl; have hfz9_0 := blk_frozen BK111.out 0; have hfz9_1 := blk_frozen BK111.out 1) | ((with_reducible refine gate_callee (f := 22) rfl ?_); refine goesL_ (some 17) rfl rfl Try.func22 (by kernel_rfl) rfl #[.slice A0 l0.length c0, .slice A1_0 l1_0.length c1_0, .int .i64 1] rfl (by (try simp only [List.map_toArray, List.map_cons, List.map_nil]); first | done | rfl | (simp only [List.length_drop, List.length_take]; rfl)) ?_; (with_reducible refine (pack_List.calls _ _ l0 _ _ l1_0 1 t113 t114 _ ?side1 ?side2 ?side3 ?side4 A5.out).mono ?_); (case side1 => exact mvC_ ((Kd.C_below HR0.out HB.out))); (case side2 => exact HC0.out); (case side3 => exact mvC_ ((Kd.C_below HR1_0.out HB.out))); (case side4 => exact HC1_0.out); rintro e w10 ⟨v115, rfl, ho0, hb⟩; refine ⟨_, rfl, ?_⟩; have n0_ := Aside0.mk (Kd.R_lower ho0 (below_size (bq1_ HB.out GE111.out))); have n1_ := Aside0.mk (blk_below (g := gb111) (o := .cells #[.slice A1_0 l1_0.length c1_0, .slice A1_1 l1_1.length c1_1] 26 (0, 0)) (mvK_ BK111.out) hb); have n2_ := Aside0.mk (below_step (bq1_ HB.out GE111.out) hb); clear BK111; clear HB; have HO116 := n0_; have BK111 := n1_; have HB := n2_; clear n0_ n1_ n2_; (try clear hb); (try clear ho0); have hcz11_0 : w10.cell? ⟨gb111, 0, none⟩ = some (.slice A1_0 l1_0.length c1_0) := (blk_cell BK111.out 0).trans rfl; have hcz11_1 : w10.cell? ⟨gb111, 1, none⟩ = some (.slice A1_1 l1_1.length c1_1) := (blk_cell BK111.out 1).trans rfl; have hfz11_0 := blk_frozen BK111.out 0; have hfz11_1 := blk_frozen BK111.out 1))
    go_loopg [6, 23] k (fun kq v6 v23 w' => ∃ (x6_1 : List Int) (x23_1 : Int), v23 = .int .i64 x23_1 ∧ Aside0 (image_Put.l0 kq x6_1 l1_1 (l1_1.length : Int) x23_1 = some (r1, r2)) ∧ Aside0 (kq ≤ k) ∧ Aside0 (Kd.R (Kd.int .u8) 5 w' w.heap.size (fun _ => True) v6 x6_1) ∧ Aside0 (w'.heap[gb111]? = some (.cells #[(.slice A1_0 l1_0.length c1_0), (.slice A1_1 l1_1.length c1_1)] 26 (0, 0))) ∧ Aside0 (Below w.heap.size w w'))
    case atStart => exact ⟨(t113), (0), (by first | rfl | (simp; done) | (simp [*]; done)), H', ⟨Nat.le_refl _⟩, ⟨by (with_reducible repeat (first | apply Kd.R_alloc | apply Kd.R_drewN | apply Kd.R_drew)); exact HO116.out⟩, ⟨by (with_reducible repeat (first | refine blk_drewN ?_ _ | refine blk_drew ?_ | refine blk_alloc ?_ _)); exact BK111.out⟩, ⟨by repeat (first | (with_reducible first | exact HB.out | apply below_alloc | apply pw_below_drewN | apply below_drew1 | refine below_set ?_ GE111.out) | exact HB.out)⟩⟩
    case round =>
      clear H'
      try clear c1
      try clear c2
      try clear p2
      try clear c4
      try clear c11
      try clear hcz11_0
      try clear hcz11_1
      try clear hcz7_0
      try clear hcz7_1
      try clear hcz9_0
      try clear hcz9_1
      try clear hfz11_0
      try clear hfz11_1
      try clear hfz7_0
      try clear hfz7_1
      try clear hfz9_0
      try clear hfz9_1
      obtain ⟨x6_1, x23_1, rfl, HA, HK1, HO_6, BK111, HB⟩ := hrel
      cases gk with
      | zero => exact absurd HA.out (by simp [image_Put.l0])
      | succ k1 =>
        have H := HA.out
        clear HA
        simp only [image_Put.l0] at H
        by_cases c12 : x23_1 < (l1_1.length : Int)
        · rw [if_pos c12] at H
          have c12b0 : decide (x23_1 < (l1_1.length : Int)) = true := decide_eq_true c12
          clear c12
          by_cases c13 : 0 ≤ x23_1
          · rw [if_pos c13] at H
            have c13b0 : decide (0 ≤ x23_1) = true := decide_eq_true c13
            clear c13
            by_cases c14 : x23_1 < (l1_1.length : Int)
            · rw [if_pos c14] at H
              have c14b0 : decide (x23_1 < (l1_1.length : Int)) = true := decide_eq_true c14
              clear c14
              replace H := Option.bind_eq_some_iff.mp H
              obtain ⟨⟨t118, t119⟩, A150, H⟩ := H
              replace H : (image_Put.l0 k1 t118 l1_1 (l1_1.length : Int) (wrap64 (x23_1 + 1))) = some (r1, r2) := H
              have A15 := Aside0.mk A150
              clear A150
              have H' := Aside0.mk H
              clear H
              have p117 : 0 ≤ (x23_1 : Int) := od_
              have q117 : x23_1 < (l1_1.length : Int) := od_
              obtain ⟨ad117, e117, hx117_0⟩ := Kd.at_int HR1_1.out x23_1 p117 q117
              cases e117
              replace hx117_0 := (HB.out.cell (World.block_lt_of_cell? w _ hx117_0)).trans hx117_0
              replace p117 := eq_true p117
              replace q117 := eq_true q117
              obtain ⟨Ao16, co16, eo16⟩ := Kd.R_slice HO_6.out
              subst eo16
              go_wp2_with (first | ((with_reducible refine gate_callee (f := 23) rfl ?_); refine goesL_ (some 30) rfl rfl Try.func23 (by kernel_rfl) rfl #[.slice Ao16 x6_1.length co16, .int .i64 (rd l1_1 x23_1), .int .i64 8] rfl (by (try simp only [List.map_toArray, List.map_cons, List.map_nil]); first | done | rfl | (simp only [List.length_drop, List.length_take]; rfl)) ?_; (with_reducible refine (pack_Put.calls _ _ x6_1 (rd l1_1 x23_1) 8 t118 t119 _ ?side1 ?side2 A15.out).mono ?_); (case side1 => exact mvC_ ((Kd.R_reads' HO_6.out).2.2)); (case side2 => exact (Kd.R_reads' HO_6.out).2.1); rintro e w17 ⟨v120, rfl, ho0, hb⟩; refine ⟨_, rfl, ?_⟩; have n0_ := Aside0.mk (Kd.R_elder' (mvR_ HO_6.out) (Kd.R_base ho0) hb); have n1_ := Aside0.mk (Kd.R_lower (Kd.R_new' ho0 (Kd.R_lt (mvR_ HO_6.out))) (below_size (bq1_ HB.out GE111.out))); have n2_ := Aside0.mk (blk_below (g := gb111) (o := .cells #[.slice A1_0 l1_0.length c1_0, .slice (some ad117) l1_1.length c1_1] 26 (0, 0)) (mvK_ BK111.out) hb); have n3_ := Aside0.mk (below_step (bq1_ HB.out GE111.out) hb); clear HO_6; clear BK111; clear HB; have HO_6 := n0_; have HO121 := n1_; have BK111 := n2_; have HB := n3_; clear n0_ n1_ n2_ n3_; (try clear hb); (try clear ho0)))
              go_roundg k1
              case measure => have := HK1.out; omega
              case rel => exact ⟨(t118), (wrap64 (x23_1 + 1)), (by first | rfl | (simp; done) | (simp [*]; done)), H', ⟨by have := HK1.out; omega⟩, ⟨by (with_reducible repeat (first | apply Kd.R_alloc | apply Kd.R_drewN | apply Kd.R_drew)); exact Kd.R_mono HO121.out (fun _ hk => trivial)⟩, ⟨by (with_reducible repeat (first | refine blk_drewN ?_ _ | refine blk_drew ?_ | refine blk_alloc ?_ _)); exact BK111.out⟩, ⟨by repeat (first | (with_reducible first | exact HB.out | apply below_alloc | apply pw_below_drewN | apply below_drew1 | refine below_set ?_ GE111.out) | exact HB.out)⟩⟩
            · rw [if_neg c14] at H
              exact absurd H (by simp)
          · rw [if_neg c13] at H
            exact absurd H (by simp)
        · rw [if_neg c12] at H
          have c12b0 : decide (x23_1 < (l1_1.length : Int)) = false := decide_eq_false c12
          clear c12
          simp only [Option.some.injEq, Prod.mk.injEq] at H
          obtain ⟨rfl, rfl⟩ := H
          go_wp2
          go_ret2
          exact ⟨_, by first | rfl | (simp [errW_none, errW_some] <;> rfl) | (simp [*, errW_none, errW_some] <;> rfl), by (with_reducible repeat (first | apply Kd.R_alloc | apply Kd.R_drewN | apply Kd.R_drew)); exact HO_6.out, by repeat (first | (with_reducible first | exact HB.out | apply below_alloc | apply pw_below_drewN | apply below_drew1 | refine below_set ?_ GE111.out) | exact HB.out)⟩
  · replace c4 := Bool.eq_false_iff.mpr c4
    subst c4
    have H1 : (some (([] : List Int), 30)) = some (r1, r2) := by rw [if_neg (show ¬ (false = true) by decide)] at H; exact H
    clear H
    have H := H1
    clear H1
    simp only [Option.some.injEq, Prod.mk.injEq] at H
    obtain ⟨rfl, rfl⟩ := H
    go_enter Try.func11, Try.ntmps11
    go_wp2_with (first | ((with_reducible refine gate_dst (N := 3) rfl ?_); refine box_event ?hg (N := 3) ?hd (cs := #[.slice A1_0 l1_0.length c1_0, .slice A1_1 l1_1.length c1_1]) (t := 26) ?hr ?_; (case hd => rfl); (case hg => rfl); (case hr => first | (go_simp; done) | (go_simp; rfl)); intro gb111 hg w18 hbox hb; have n0_ := Aside0.mk (below_step (bq0_ HB.out) hb); have n1_ := Aside0.mk (hbox); have n2_ := Aside0.mk ((by rw [hg]; exact (below_size (bq0_ HB.out)) : w.heap.size ≤ gb111)); have n3_ := Aside0.mk ((by rw [hg]; exact (below_size (bq0_ HB.out)) : w.heap.size ≤ gb111)); clear HB; have HB := n0_; have BK111 := n1_; have GW111 := n2_; have GE111 := n3_; clear n0_ n1_ n2_ n3_; clear hb hbox hg; have hcz19_0 : w18.cell? ⟨gb111, 0, none⟩ = some (.slice A1_0 l1_0.length c1_0) := (blk_cell BK111.out 0).trans rfl; have hcz19_1 : w18.cell? ⟨gb111, 1, none⟩ = some (.slice A1_1 l1_1.length c1_1) := (blk_cell BK111.out 1).trans rfl; have hfz19_0 := blk_frozen BK111.out 0; have hfz19_1 := blk_frozen BK111.out 1) | ((with_reducible refine gate_callee (f := 21) rfl ?_); refine goesL_ (some 11) rfl rfl Try.func21 (by kernel_rfl) rfl #[.agg #[.slice A1_0 l1_0.length c1_0, .slice A1_1 l1_1.length c1_1]] rfl (by (try simp only [List.map_toArray, List.map_cons, List.map_nil]); first | done | rfl | (simp only [List.length_drop, List.length_take]; rfl)) ?_; (with_reducible refine (tensor_Check.calls k _ _ l1_0 _ _ l1_1 false _ ?side1 ?side2 ?side3 ?side4 A3.out).mono ?_); (case side1 => exact mvC_ ((Kd.C_below HR1_0.out HB.out))); (case side2 => exact HC1_0.out); (case side3 => exact mvC_ ((Kd.C_below HR1_1.out HB.out))); (case side4 => exact HC1_1.out); rintro e w20 ⟨rfl, hb⟩; refine ⟨_, rfl, ?_⟩; have n0_ := Aside0.mk (blk_below (g := gb111) (o := .cells #[.slice A1_0 l1_0.length c1_0, .slice A1_1 l1_1.length c1_1] 26 (0, 0)) (mvK_ BK111.out) hb); have n1_ := Aside0.mk (below_step (bq1_ HB.out GE111.out) hb); clear BK111; clear HB; have BK111 := n0_; have HB := n1_; clear n0_ n1_; (try clear hb)))
    go_ret2
    exact ⟨_, by first | rfl | (simp [errW_none, errW_some] <;> rfl) | (simp [*, errW_none, errW_some] <;> rfl), by first | exact Kd.R_nil _ _ _ _ _ | exact Kd.N_nil _ _ _ _ _ | exact Kd.V_nil _ _ _ _ _ | exact Kd.Q_nil _ _ _ _ _ | exact Kd.S_nil _ _ _ _ _, by repeat (first | (with_reducible first | exact HB.out | apply below_alloc | apply pw_below_drewN | apply below_drew1 | refine below_set ?_ GE111.out) | exact HB.out)⟩

/-! ### image_Write: function 13 -/
def image_Write.l0 : Nat → List Int → List (S26) → Int → Int → Option (List Int × Int)
  | 0, _, _, _, _ => none
  | k + 1, x2, x6, x7, x8 => if x8 < x7 then (if 0 ≤ x8 then (if x8 < (x6.length : Int) then ((image_Put.f k x2 ((rd_T26 x6 x8).f0) ((rd_T26 x6 x8).f1)).bind fun bt124 => (if bt124.2 = 0 then (image_Write.l0 k bt124.1 x6 x7 (wrap64 (x8 + 1))) else (some (([] : List Int), bt124.2)))) else (none)) else (none)) else (some (x2, 0))
def image_Write.f (k : Nat) (l0 : List (S26)) : Option (List Int × Int) := image_Write.l0 k ([] : List Int) l0 (l0.length : Int) 0
theorem image_Write.mono_l : ∀ k, (∀ y0 y1 y2 y3, LeO (image_Write.l0 k y0 y1 y2 y3) (image_Write.l0 (k + 1) y0 y1 y2 y3))
  | 0 => fun _ _ _ _ r h => by simp [image_Write.l0] at h
  | k + 1 => by
    have ih0 := image_Write.mono_l k
    · intro y0 y1 y2 y3
      unfold image_Write.l0
      repeat' first
      | (with_reducible exact ih0 _ _ _ _)
      | (with_reducible exact image_Put.mono _ _ _ _)
      | (with_reducible exact LeO.refl _)
      | (with_reducible exact LeO.none _)
      | (with_reducible refine LeO.ite ?_ ?_)
      | (with_reducible refine LeO.bind ?_ (fun _ => ?_))
      | exact ih0 _ _ _ _
      | exact image_Put.mono _ _ _ _
      | exact LeO.none _
      | refine LeO.ite ?_ ?_
      | refine LeO.bind ?_ (fun _ => ?_)
theorem image_Write.mono : ∀ a0 k, LeO (image_Write.f k a0) (image_Write.f (k + 1) a0) := by
  intro a0 k
  have ih0 := image_Write.mono_l k
  unfold image_Write.f
  repeat' first
      | (with_reducible exact ih0 _ _ _ _)
      | (with_reducible exact image_Put.mono _ _ _ _)
      | (with_reducible exact LeO.refl _)
      | (with_reducible exact LeO.none _)
      | (with_reducible refine LeO.ite ?_ ?_)
      | (with_reducible refine LeO.bind ?_ (fun _ => ?_))
      | exact ih0 _ _ _ _
      | exact image_Put.mono _ _ _ _
      | exact LeO.none _
      | refine LeO.ite ?_ ?_
      | refine LeO.bind ?_ (fun _ => ?_)
set_option maxHeartbeats 8000000 in
set_option maxRecDepth 100000 in
theorem image_Write.calls (k : Nat) (A0 : Option Addr) (c0 : Nat) (l0 : List (S26)) (r1 : List Int) (r2 : Int) (w : World) (hr0 : Kd.C k26 w A0 l0.length l0) (hc0 : l0.length ≤ c0) (h : image_Write.f k l0 = some (r1, r2)) :
    Calls Try.prog 13 #[.slice A0 l0.length c0] w fun e w' => ∃ v0_ : Value, e = .returned (.tuple #[v0_, .int .i64 r2]) ∧ Kd.R (Kd.int .u8) 5 w' w.heap.size (fun _ => True) v0_ r1 ∧ Below w.heap.size w w' := by
  have hu26 := Try.underlying26
  have HR0 := Aside0.mk hr0
  have HC0 := Aside0.mk hc0
  clear hr0 hc0
  have HB := Aside0.mk (Below.refl w.heap.size w)
  have H : (image_Write.l0 k ([] : List Int) l0 (l0.length : Int) 0) = some (r1, r2) := h
  clear h
  have H' := Aside0.mk H
  clear H
  go_enter Try.func13, Try.ntmps13
  go_wp2
  go_loopg [2, 8] k (fun kq v2 v8 w' => ∃ (x2_1 : List Int) (x8_1 : Int), v8 = .int .i64 x8_1 ∧ Aside0 (image_Write.l0 kq x2_1 l0 (l0.length : Int) x8_1 = some (r1, r2)) ∧ Aside0 (kq ≤ k) ∧ Aside0 (Kd.R (Kd.int .u8) 5 w' w.heap.size (fun _ => True) v2 x2_1) ∧ Aside0 (Below w.heap.size w w'))
  case atStart => exact ⟨(([] : List Int)), (0), (by first | rfl | (simp; done) | (simp [*]; done)), H', ⟨Nat.le_refl _⟩, ⟨by first | exact Kd.R_nil _ _ _ _ _ | exact Kd.N_nil _ _ _ _ _ | exact Kd.V_nil _ _ _ _ _ | exact Kd.Q_nil _ _ _ _ _ | exact Kd.S_nil _ _ _ _ _⟩, ⟨by repeat (first | (with_reducible first | exact HB.out | apply below_alloc | apply pw_below_drewN | apply below_drew1) | exact HB.out)⟩⟩
  case round =>
    clear H'
    try clear c1
    obtain ⟨x2_1, x8_1, rfl, HA, HK1, HO_2, HB⟩ := hrel
    cases gk with
    | zero => exact absurd HA.out (by simp [image_Write.l0])
    | succ k1 =>
      have H := HA.out
      clear HA
      simp only [image_Write.l0] at H
      by_cases c2 : x8_1 < (l0.length : Int)
      · rw [if_pos c2] at H
        have c2b0 : decide (x8_1 < (l0.length : Int)) = true := decide_eq_true c2
        clear c2
        by_cases c3 : 0 ≤ x8_1
        · rw [if_pos c3] at H
          have c3b0 : decide (0 ≤ x8_1) = true := decide_eq_true c3
          clear c3
          by_cases c4 : x8_1 < (l0.length : Int)
          · rw [if_pos c4] at H
            have c4b0 : decide (x8_1 < (l0.length : Int)) = true := decide_eq_true c4
            clear c4
            replace H := Option.bind_eq_some_iff.mp H
            obtain ⟨⟨t124, t127⟩, A50, H⟩ := H
            replace H : (if t127 = 0 then (image_Write.l0 k1 t124 l0 (l0.length : Int) (wrap64 (x8_1 + 1))) else (some (([] : List Int), t127))) = some (r1, r2) := H
            have A5 := Aside0.mk A50
            clear A50
            by_cases c6 : t127 = 0
            · rw [if_pos c6] at H
              have c6b0 : (t127 == 0) = true := beq_iff_eq.mpr c6
              have c6b1 : (t127 != 0) = false := bne_eq_false_iff_eq.mpr c6
              clear c6
              have H' := Aside0.mk H
              clear H
              have p122 : 0 ≤ (x8_1 : Int) := od_
              have q122 : x8_1 < (l0.length : Int) := od_
              obtain ⟨ad122, A122_0, c122_0, A122_1, c122_1, e122, hx122_0, hx122_1, hl122_0, hi122_0, hl122_1, hi122_1⟩ := at_T26 HR0.out x8_1 p122 q122
              cases e122
              replace hx122_0 := (HB.out.cell (World.block_lt_of_cell? w _ hx122_0)).trans hx122_0
              replace hx122_1 := (HB.out.cell (World.block_lt_of_cell? w _ hx122_1)).trans hx122_1
              have HR122_0 := Aside0.mk hi122_0
              have HC122_0 := Aside0.mk hl122_0
              clear hi122_0 hl122_0
              have HR122_1 := Aside0.mk hi122_1
              have HC122_1 := Aside0.mk hl122_1
              clear hi122_1 hl122_1
              replace p122 := eq_true p122
              replace q122 := eq_true q122
              go_wp2_with (first | ((with_reducible refine gate_dst (N := 5) rfl ?_); refine box_event ?hg (N := 5) ?hd (cs := #[.slice none 0 0, .slice none 0 0]) (t := 26) ?hr ?_; (case hd => rfl); (case hg => rfl); (case hr => first | (go_simp; done) | (go_simp; rfl)); intro gb123 hg w7 hbox hb; have n0_ := Aside0.mk (Kd.R_below (mvR_ HO_2.out) hb); have n1_ := Aside0.mk (below_step (bq0_ HB.out) hb); have n2_ := Aside0.mk (hbox); have n3_ := Aside0.mk ((by rw [hg]; exact (below_size (bq0_ HB.out)) : w.heap.size ≤ gb123)); have n4_ := Aside0.mk ((by rw [hg]; exact (below_size (bq0_ HB.out)) : w.heap.size ≤ gb123)); clear HO_2; clear HB; have HO_2 := n0_; have HB := n1_; have BK123 := n2_; have GW123 := n3_; have GE123 := n4_; clear n0_ n1_ n2_ n3_ n4_; clear hb hbox hg; have hcz8_0 : w7.cell? ⟨gb123, 0, none⟩ = some (.slice none 0 0) := (blk_cell BK123.out 0).trans rfl; have hcz8_1 : w7.cell? ⟨gb123, 1, none⟩ = some (.slice none 0 0) := (blk_cell BK123.out 1).trans rfl; have hfz8_0 := blk_frozen BK123.out 0; have hfz8_1 := blk_frozen BK123.out 1; obtain ⟨Ao9, co9, eo9⟩ := Kd.R_slice HO_2.out; subst eo9) | ((with_reducible refine gate_callee (f := 11) rfl ?_); refine goesL_ (some 15) rfl rfl Try.func11 (by kernel_rfl) rfl #[.slice Ao9 x2_1.length co9, .agg #[.slice A122_0 ((rd_T26 l0 x8_1).f0).length c122_0, .slice A122_1 ((rd_T26 l0 x8_1).f1).length c122_1]] rfl (by (try simp only [List.map_toArray, List.map_cons, List.map_nil]); first | done | rfl | (simp only [List.length_drop, List.length_take]; rfl)) ?_; (with_reducible refine (image_Put.calls k1 _ _ x2_1 _ _ ((rd_T26 l0 x8_1).f0) _ _ ((rd_T26 l0 x8_1).f1) t124 t127 _ ?side1 ?side2 ?side3 ?side4 ?side5 ?side6 A5.out).mono ?_); (case side1 => refine (Kd.R_reads' (e := 5) (base := w.heap.size) (ok := fun k_ => True) (n := x2_1.length) (c := co9) ?_).2.2; exact (by (with_reducible repeat (first | apply Kd.R_alloc | apply Kd.R_drewN | apply Kd.R_drew)); exact (Kd.R_mono (Kd.R_far (p := ⟨gb123, 1, none⟩) (Kd.R_far (p := ⟨gb123, 0, none⟩) (Kd.R_types HO_2.out BK123.out (by decide)) (fun _ hk => hk.2) (.slice A122_0 ((rd_T26 l0 x8_1).f0).length c122_0)) (fun _ hk => hk.2) (.slice A122_1 ((rd_T26 l0 x8_1).f1).length c122_1)) (fun _ h_ => h_.1)))); (case side2 => exact (Kd.R_reads' HO_2.out).2.1); (case side3 => exact Kd.C_below HR122_0.out (bq1_ HB.out GE123.out)); (case side4 => exact HC122_0.out); (case side5 => exact Kd.C_below HR122_1.out (bq1_ HB.out GE123.out)); (case side6 => exact HC122_1.out); rintro e w10 ⟨v125, rfl, ho0, hb⟩; refine ⟨_, rfl, ?_⟩; have n0_ := Aside0.mk (Kd.R_elder' (by (with_reducible repeat (first | apply Kd.R_alloc | apply Kd.R_drewN | apply Kd.R_drew)); exact (Kd.R_mono (Kd.R_far (p := ⟨gb123, 1, none⟩) (Kd.R_far (p := ⟨gb123, 0, none⟩) (Kd.R_types HO_2.out BK123.out (by decide)) (fun _ hk => hk.2) (.slice A122_0 ((rd_T26 l0 x8_1).f0).length c122_0)) (fun _ hk => hk.2) (.slice A122_1 ((rd_T26 l0 x8_1).f1).length c122_1)) (fun _ h_ => h_.1))) (Kd.R_base ho0) hb); have n1_ := Aside0.mk (Kd.R_lower (Kd.R_new' ho0 (Kd.R_lt (by (with_reducible repeat (first | apply Kd.R_alloc | apply Kd.R_drewN | apply Kd.R_drew)); exact (Kd.R_mono (Kd.R_far (p := ⟨gb123, 1, none⟩) (Kd.R_far (p := ⟨gb123, 0, none⟩) (Kd.R_types HO_2.out BK123.out (by decide)) (fun _ hk => hk.2) (.slice A122_0 ((rd_T26 l0 x8_1).f0).length c122_0)) (fun _ hk => hk.2) (.slice A122_1 ((rd_T26 l0 x8_1).f1).length c122_1)) (fun _ h_ => h_.1))))) (below_size (bq1_ HB.out GE123.out))); have n2_ := Aside0.mk (blk_below (g := gb123) (o := .cells #[.slice A122_0 ((rd_T26 l0 x8_1).f0).length c122_0, .slice A122_1 ((rd_T26 l0 x8_1).f1).length c122_1] 26 (0, 0)) (by (with_reducible repeat (first | refine blk_drewN ?_ _ | refine blk_drew ?_ | refine blk_alloc ?_ _)); refine blk_put (cs := #[.slice A122_0 ((rd_T26 l0 x8_1).f0).length c122_0, .slice none 0 0]) ?_ 1 _ rfl; (with_reducible repeat (first | refine blk_drewN ?_ _ | refine blk_drew ?_ | refine blk_alloc ?_ _)); refine blk_put (cs := #[.slice none 0 0, .slice none 0 0]) ?_ 0 _ rfl; (with_reducible repeat (first | refine blk_drewN ?_ _ | refine blk_drew ?_ | refine blk_alloc ?_ _)); exact BK123.out) hb); have n3_ := Aside0.mk (below_step (bq1_ HB.out GE123.out) hb); clear HO_2; clear BK123; clear HB; have HO_2 := n0_; have HO126 := n1_; have BK123 := n2_; have HB := n3_; clear n0_ n1_ n2_ n3_; (try clear hb); (try clear ho0)))
              go_roundg k1
              case measure => have := HK1.out; omega
              case rel => exact ⟨(t124), (wrap64 (x8_1 + 1)), (by first | rfl | (simp; done) | (simp [*]; done)), H', ⟨by have := HK1.out; omega⟩, ⟨by (with_reducible repeat (first | apply Kd.R_alloc | apply Kd.R_drewN | apply Kd.R_drew)); exact Kd.R_mono HO126.out (fun _ hk => trivial)⟩, ⟨by repeat (first | (with_reducible first | exact HB.out | apply below_alloc | apply pw_below_drewN | apply below_drew1 | refine below_set ?_ GE123.out) | exact HB.out)⟩⟩
            · rw [if_neg c6] at H
              have c6b0 : (t127 == 0) = false := beq_eq_false_iff_ne.mpr c6
              have c6b1 : (t127 != 0) = true := bne_iff_ne.mpr c6
              simp only [Option.some.injEq, Prod.mk.injEq] at H
              obtain ⟨rfl, rfl⟩ := H
              have p122 : 0 ≤ (x8_1 : Int) := od_
              have q122 : x8_1 < (l0.length : Int) := od_
              obtain ⟨ad122, A122_0, c122_0, A122_1, c122_1, e122, hx122_0, hx122_1, hl122_0, hi122_0, hl122_1, hi122_1⟩ := at_T26 HR0.out x8_1 p122 q122
              cases e122
              replace hx122_0 := (HB.out.cell (World.block_lt_of_cell? w _ hx122_0)).trans hx122_0
              replace hx122_1 := (HB.out.cell (World.block_lt_of_cell? w _ hx122_1)).trans hx122_1
              have HR122_0 := Aside0.mk hi122_0
              have HC122_0 := Aside0.mk hl122_0
              clear hi122_0 hl122_0
              have HR122_1 := Aside0.mk hi122_1
              have HC122_1 := Aside0.mk hl122_1
              clear hi122_1 hl122_1
              replace p122 := eq_true p122
              replace q122 := eq_true q122
              go_wp2_with (first | ((with_reducible refine gate_dst (N := 5) rfl ?_); refine box_event ?hg (N := 5) ?hd (cs := #[.slice none 0 0, .slice none 0 0]) (t := 26) ?hr ?_; (case hd => rfl); (case hg => rfl); (case hr => first | (go_simp; done) | (go_simp; rfl)); intro gb123 hg w11 hbox hb; have n0_ := Aside0.mk (Kd.R_below (mvR_ HO_2.out) hb); have n1_ := Aside0.mk (below_step (bq0_ HB.out) hb); have n2_ := Aside0.mk (hbox); have n3_ := Aside0.mk ((by rw [hg]; exact (below_size (bq0_ HB.out)) : w.heap.size ≤ gb123)); have n4_ := Aside0.mk ((by rw [hg]; exact (below_size (bq0_ HB.out)) : w.heap.size ≤ gb123)); clear HO_2; clear HB; have HO_2 := n0_; have HB := n1_; have BK123 := n2_; have GW123 := n3_; have GE123 := n4_; clear n0_ n1_ n2_ n3_ n4_; clear hb hbox hg; have hcz12_0 : w11.cell? ⟨gb123, 0, none⟩ = some (.slice none 0 0) := (blk_cell BK123.out 0).trans rfl; have hcz12_1 : w11.cell? ⟨gb123, 1, none⟩ = some (.slice none 0 0) := (blk_cell BK123.out 1).trans rfl; have hfz12_0 := blk_frozen BK123.out 0; have hfz12_1 := blk_frozen BK123.out 1; obtain ⟨Ao13, co13, eo13⟩ := Kd.R_slice HO_2.out; subst eo13) | ((with_reducible refine gate_callee (f := 11) rfl ?_); refine goesL_ (some 15) rfl rfl Try.func11 (by kernel_rfl) rfl #[.slice Ao13 x2_1.length co13, .agg #[.slice A122_0 ((rd_T26 l0 x8_1).f0).length c122_0, .slice A122_1 ((rd_T26 l0 x8_1).f1).length c122_1]] rfl (by (try simp only [List.map_toArray, List.map_cons, List.map_nil]); first | done | rfl | (simp only [List.length_drop, List.length_take]; rfl)) ?_; (with_reducible refine (image_Put.calls k1 _ _ x2_1 _ _ ((rd_T26 l0 x8_1).f0) _ _ ((rd_T26 l0 x8_1).f1) t124 t127 _ ?side1 ?side2 ?side3 ?side4 ?side5 ?side6 A5.out).mono ?_); (case side1 => refine (Kd.R_reads' (e := 5) (base := w.heap.size) (ok := fun k_ => True) (n := x2_1.length) (c := co13) ?_).2.2; exact (by (with_reducible repeat (first | apply Kd.R_alloc | apply Kd.R_drewN | apply Kd.R_drew)); exact (Kd.R_mono (Kd.R_far (p := ⟨gb123, 1, none⟩) (Kd.R_far (p := ⟨gb123, 0, none⟩) (Kd.R_types HO_2.out BK123.out (by decide)) (fun _ hk => hk.2) (.slice A122_0 ((rd_T26 l0 x8_1).f0).length c122_0)) (fun _ hk => hk.2) (.slice A122_1 ((rd_T26 l0 x8_1).f1).length c122_1)) (fun _ h_ => h_.1)))); (case side2 => exact (Kd.R_reads' HO_2.out).2.1); (case side3 => exact Kd.C_below HR122_0.out (bq1_ HB.out GE123.out)); (case side4 => exact HC122_0.out); (case side5 => exact Kd.C_below HR122_1.out (bq1_ HB.out GE123.out)); (case side6 => exact HC122_1.out); rintro e w14 ⟨v125, rfl, ho0, hb⟩; refine ⟨_, rfl, ?_⟩; have n0_ := Aside0.mk (Kd.R_elder' (by (with_reducible repeat (first | apply Kd.R_alloc | apply Kd.R_drewN | apply Kd.R_drew)); exact (Kd.R_mono (Kd.R_far (p := ⟨gb123, 1, none⟩) (Kd.R_far (p := ⟨gb123, 0, none⟩) (Kd.R_types HO_2.out BK123.out (by decide)) (fun _ hk => hk.2) (.slice A122_0 ((rd_T26 l0 x8_1).f0).length c122_0)) (fun _ hk => hk.2) (.slice A122_1 ((rd_T26 l0 x8_1).f1).length c122_1)) (fun _ h_ => h_.1))) (Kd.R_base ho0) hb); have n1_ := Aside0.mk (Kd.R_lower (Kd.R_new' ho0 (Kd.R_lt (by (with_reducible repeat (first | apply Kd.R_alloc | apply Kd.R_drewN | apply Kd.R_drew)); exact (Kd.R_mono (Kd.R_far (p := ⟨gb123, 1, none⟩) (Kd.R_far (p := ⟨gb123, 0, none⟩) (Kd.R_types HO_2.out BK123.out (by decide)) (fun _ hk => hk.2) (.slice A122_0 ((rd_T26 l0 x8_1).f0).length c122_0)) (fun _ hk => hk.2) (.slice A122_1 ((rd_T26 l0 x8_1).f1).length c122_1)) (fun _ h_ => h_.1))))) (below_size (bq1_ HB.out GE123.out))); have n2_ := Aside0.mk (blk_below (g := gb123) (o := .cells #[.slice A122_0 ((rd_T26 l0 x8_1).f0).length c122_0, .slice A122_1 ((rd_T26 l0 x8_1).f1).length c122_1] 26 (0, 0)) (by (with_reducible repeat (first | refine blk_drewN ?_ _ | refine blk_drew ?_ | refine blk_alloc ?_ _)); refine blk_put (cs := #[.slice A122_0 ((rd_T26 l0 x8_1).f0).length c122_0, .slice none 0 0]) ?_ 1 _ rfl; (with_reducible repeat (first | refine blk_drewN ?_ _ | refine blk_drew ?_ | refine blk_alloc ?_ _)); refine blk_put (cs := #[.slice none 0 0, .slice none 0 0]) ?_ 0 _ rfl; (with_reducible repeat (first | refine blk_drewN ?_ _ | refine blk_drew ?_ | refine blk_alloc ?_ _)); exact BK123.out) hb); have n3_ := Aside0.mk (below_step (bq1_ HB.out GE123.out) hb); clear HO_2; clear BK123; clear HB; have HO_2 := n0_; have HO126 := n1_; have BK123 := n2_; have HB := n3_; clear n0_ n1_ n2_ n3_; (try clear hb); (try clear ho0)))
              go_ret2
              exact ⟨_, by first | rfl | (simp [errW_none, errW_some] <;> rfl) | (simp [*, errW_none, errW_some] <;> rfl), by first | exact Kd.R_nil _ _ _ _ _ | exact Kd.N_nil _ _ _ _ _ | exact Kd.V_nil _ _ _ _ _ | exact Kd.Q_nil _ _ _ _ _ | exact Kd.S_nil _ _ _ _ _, by repeat (first | (with_reducible first | exact HB.out | apply below_alloc | apply pw_below_drewN | apply below_drew1 | refine below_set ?_ GE123.out) | exact HB.out)⟩
          · rw [if_neg c4] at H
            exact absurd H (by simp)
        · rw [if_neg c3] at H
          exact absurd H (by simp)
      · rw [if_neg c2] at H
        have c2b0 : decide (x8_1 < (l0.length : Int)) = false := decide_eq_false c2
        clear c2
        simp only [Option.some.injEq, Prod.mk.injEq] at H
        obtain ⟨rfl, rfl⟩ := H
        go_wp2
        go_ret2
        exact ⟨_, by first | rfl | (simp [errW_none, errW_some] <;> rfl) | (simp [*, errW_none, errW_some] <;> rfl), by (with_reducible repeat (first | apply Kd.R_alloc | apply Kd.R_drewN | apply Kd.R_drew)); exact HO_2.out, by repeat (first | (with_reducible first | exact HB.out | apply below_alloc | apply pw_below_drewN | apply below_drew1) | exact HB.out)⟩

end Go.Proofs.Ytfoffgbhfokccaa.A
