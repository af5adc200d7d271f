/- Lean functions that answer as the Go functions do, and the proofs that they do; no conditions. Written by this session's own driver: a scratch copy of the kit's print with the session's additions (wip/xprint). -/
import Derived.Test.YtalmgghhpgfgoaaAx0
import Derived.Test.YtalmgghhpgfgoaaAx1
import Derived.Test.YtalmgghhpgfgoaaAx2
import Derived.Test.YtalmgghhpgfgoaaAx3
import Derived.Test.YtalmgghhpgfgoaaAx4
import Derived.Test.YtalmgghhpgfgoaaAx5
import Derived.Test.YtalmgghhpgfgoaaAx6
namespace Go.Proofs.Ytalmgghhpgfgoaa.A
open Go.RowKit Go.Proofs.YtalmgghhpgfgoaaW.PrintWords Go.Proofs.YtalmgghhpgfgoaaW.PrintLast Go.Proofs.YtalmgghhpgfgoaaW.PrintMore
attribute [local go_sem] max2_int min2_int max_two min_two max_three min_three max_four min_four   -- for this text's walks alone
set_option linter.unusedVariables false
set_option linter.unusedSimpArgs false

def L51_0 : Array Bool := #[false, false, false, false, false, false, false, false, false]
def L51_1 : Array Bool := #[true, false, false, false, false, false, false, false, false]
def L51_2 : Array Bool := #[true, true, false, false, false, false, false, false, false]
def L51_3 : Array Bool := #[true, true, false, false, true, false, false, false, false]
def L51_4 : Array Bool := #[true, true, false, false, true, true, false, false, false]
def L51_5 : Array Bool := #[true, true, true, false, true, true, false, false, false]
def L51_6 : Array Bool := #[true, true, true, false, true, true, true, false, false]
def L51_7 : Array Bool := #[true, true, true, true, true, true, true, false, false]
def L51_8 : Array Bool := #[true, true, true, true, true, true, true, true, false]
def L51_9 : Array Bool := #[true, true, true, true, true, true, true, true, true]
/-! ### infer_behind: function 51 -/
def infer_behind.f (k : Nat) (l0 : List (List Int)) (a1 : Int) (l2 : List Int) : Option (List Int × Bool) := if 0 < (l0.length : Int) then ((slices_Clone_int_int.f (rd_L1 l0 0)).bind fun t187 => (if 1 < (l0.length : Int) then (if (t187.length : Int) = ((rd_L1 l0 1).length : Int) then (if 0 ≤ a1 then (if a1 < (t187.length : Int) then (if a1 < ((rd_L1 l0 1).length : Int) then ((some (t187.set (a1 : Int).toNat (rd (rd_L1 l0 1) a1) : List Int)).bind fun y193 => ((slices_Equal_int_int.f k y193 (rd_L1 l0 1)).bind fun t194 => (if t194 = true then ((some (y193.set (a1 : Int).toNat (wrap64 ((rd y193 a1) + (rd t187 a1))) : List Int)).bind fun y196 => ((shape_Check.f k y196).bind fun t197 => (some (y196, t197)))) else (some (([] : List Int), false))))) else (none)) else (none)) else (none)) else (some (([] : List Int), false))) else (none))) else (none)
theorem infer_behind.mono : ∀ a0 a1 a2 k, LeO (infer_behind.f k a0 a1 a2) (infer_behind.f (k + 1) a0 a1 a2) := by
 intro a0 a1 a2 k
 unfold infer_behind.f
 repeat' first
   | (with_reducible exact shape_Check.mono _ _)
   | (with_reducible exact slices_Equal_int_int.mono _ _ _)
   | (with_reducible exact LeO.refl _)
   | (with_reducible exact LeO.none _)
   | (with_reducible refine LeO.ite ?_ ?_)
   | (with_reducible refine LeO.bind ?_ (fun _ => ?_))
   | exact shape_Check.mono _ _
   | exact slices_Equal_int_int.mono _ _ _
   | exact LeO.none _
   | refine LeO.ite ?_ ?_
   | refine LeO.bind ?_ (fun _ => ?_)
def infer_behind.T1 : Bool × List (List Nat × List Nat) := (true, [([], []), ([0], [0]), ([1], [1]), ([2], [2]), ([], []), ([4], [4]), ([5], [5]), ([3, 3, 0, 1, 2, 3], [3]), ([6, 7, 0, 1, 2, 3, 4, 5, 6, 7], [6])])
def infer_behind.B1 : List Nat := [0, 1, 3, 7, 0, 16, 48, 15, 255]
theorem infer_behind.tab1 : rtab .any (opsOf Try.f51 1) = infer_behind.T1 := by kernel_rfl
theorem infer_behind.bits1 : waitsOk infer_behind.T1.2 infer_behind.B1 = true := by kernel_rfl
set_option maxHeartbeats 8000000 in
set_option maxRecDepth 100000 in
theorem infer_behind.calls (k : Nat) (A0 : Option Addr) (c0 : Nat) (l0 : List (List Int)) (a1 : Int) (A2 : Option Addr) (c2 : Nat) (l2 : List Int) (r1 : List Int) (r2 : Bool) (w : World) (hr0 : Kd.C (Kd.slice 3 (Kd.int .i64)) w A0 l0.length l0) (hc0 : l0.length ≤ c0) (hr2 : Kd.C (Kd.int .i64) w A2 l2.length l2) (hc2 : l2.length ≤ c2) (h : infer_behind.f k l0 a1 l2 = some (r1, r2)) :
  Calls Try.prog 51 #[.slice A0 l0.length c0, .int .i64 a1, .slice A2 l2.length c2] w fun e w' => ∃ v0_ : Value, e = .returned (.tuple #[v0_, .bool r2]) ∧ Kd.R (Kd.int .i64) 3 w' w.heap.size (fun _ => True) v0_ r1 ∧ Below w.heap.size w w' := by
 have HR0 := Aside0.mk hr0
 have HC0 := Aside0.mk hc0
 clear hr0 hc0
 have HR2 := Aside0.mk hr2
 have HC2 := Aside0.mk hc2
 clear hr2 hc2
 have HB := Aside0.mk (Below.refl w.heap.size w)
 have H : (if 0 < (l0.length : Int) then ((slices_Clone_int_int.f (rd_L1 l0 0)).bind fun t187 => (if 1 < (l0.length : Int) then (if (t187.length : Int) = ((rd_L1 l0 1).length : Int) then (if 0 ≤ a1 then (if a1 < (t187.length : Int) then (if a1 < ((rd_L1 l0 1).length : Int) then ((some (t187.set (a1 : Int).toNat (rd (rd_L1 l0 1) a1) : List Int)).bind fun y193 => ((slices_Equal_int_int.f k y193 (rd_L1 l0 1)).bind fun t194 => (if t194 = true then ((some (y193.set (a1 : Int).toNat (wrap64 ((rd y193 a1) + (rd t187 a1))) : List Int)).bind fun y196 => ((shape_Check.f k y196).bind fun t197 => (some (y196, t197)))) else (some (([] : List Int), false))))) else (none)) else (none)) else (none)) else (some (([] : List Int), false))) else (none))) else (none)) = some (r1, r2) := h
 clear h
 by_cases c4 : 0 < (l0.length : Int)
 ·rw [if_pos c4] at H
  have c4b0 : decide (0 < (l0.length : Int)) = true := decide_eq_true c4
  have c4b1 : decide (0 < l0.length) = true := decide_eq_true (by omega)
  clear c4
  replace H := Option.bind_eq_some_iff.mp H
  obtain ⟨t187, A50, H⟩ := H
  replace H : (if 1 < (l0.length : Int) then (if (t187.length : Int) = ((rd_L1 l0 1).length : Int) then (if 0 ≤ a1 then (if a1 < (t187.length : Int) then (if a1 < ((rd_L1 l0 1).length : Int) then ((some (t187.set (a1 : Int).toNat (rd (rd_L1 l0 1) a1) : List Int)).bind fun y193 => ((slices_Equal_int_int.f k y193 (rd_L1 l0 1)).bind fun t194 => (if t194 = true then ((some (y193.set (a1 : Int).toNat (wrap64 ((rd y193 a1) + (rd t187 a1))) : List Int)).bind fun y196 => ((shape_Check.f k y196).bind fun t197 => (some (y196, t197)))) else (some (([] : List Int), false))))) else (none)) else (none)) else (none)) else (some (([] : List Int), false))) else (none)) = some (r1, r2) := H
  have A5 := Aside0.mk A50
  clear A50
  by_cases c6 : 1 < (l0.length : Int)
  ·rw [if_pos c6] at H
   have c6b0 : decide (1 < (l0.length : Int)) = true := decide_eq_true c6
   have c6b1 : decide (1 < l0.length) = true := decide_eq_true (by omega)
   clear c6
   by_cases c7 : (t187.length : Int) = ((rd_L1 l0 1).length : Int)
   ·rw [if_pos c7] at H
    have c7b0 : ((t187.length : Int) == ((rd_L1 l0 1).length : Int)) = true := beq_iff_eq.mpr c7
    have c7b1 : ((t187.length : Int) != ((rd_L1 l0 1).length : Int)) = false := bne_eq_false_iff_eq.mpr c7
    have c7b2 : (t187.length == (rd_L1 l0 1).length) = true := by first | simpa using c7 | (simp at c7 ⊢; omega)
    clear c7
    by_cases c8 : 0 ≤ a1
    ·rw [if_pos c8] at H
     have c8b0 : decide (0 ≤ a1) = true := decide_eq_true c8
     clear c8
     by_cases c9 : a1 < (t187.length : Int)
     ·rw [if_pos c9] at H
      have c9b0 : decide (a1 < (t187.length : Int)) = true := decide_eq_true c9
      clear c9
      by_cases c10 : a1 < ((rd_L1 l0 1).length : Int)
      ·rw [if_pos c10] at H
       have c10b0 : decide (a1 < ((rd_L1 l0 1).length : Int)) = true := decide_eq_true c10
       clear c10
       obtain ⟨y193, hy193⟩ : ∃ y_ : List Int, y_ = (t187.set (a1 : Int).toNat (rd (rd_L1 l0 1) a1)) := ⟨_, rfl⟩
       replace H : ((slices_Equal_int_int.f k y193 (rd_L1 l0 1)).bind fun t194 => (if t194 = true then ((some (y193.set (a1 : Int).toNat (wrap64 ((rd y193 a1) + (rd t187 a1))) : List Int)).bind fun y196 => ((shape_Check.f k y196).bind fun t197 => (some (y196, t197)))) else (some (([] : List Int), false)))) = some (r1, r2) := by first | (rw [hy193]; with_reducible exact H) | (have H2_ := (Option.bind_some _ _).symm.trans H; rw [hy193]; with_reducible exact H2_) | (have H2_ := (Option.bind_some _ _).symm.trans H; with_reducible exact H2_) | with_reducible exact H | (rw [hy193]; exact H) | exact H
       have Ny193 := Aside0.mk hy193
       clear hy193
       replace H := Option.bind_eq_some_iff.mp H
       obtain ⟨t194, A120, H⟩ := H
       replace H : (if t194 = true then ((some (y193.set (a1 : Int).toNat (wrap64 ((rd y193 a1) + (rd t187 a1))) : List Int)).bind fun y196 => ((shape_Check.f k y196).bind fun t197 => (some (y196, t197)))) else (some (([] : List Int), false))) = some (r1, r2) := H
       have A12 := Aside0.mk A120
       clear A120
       by_cases c13 : t194 = true
       ·subst c13
        have H1 : ((some (y193.set (a1 : Int).toNat (wrap64 ((rd y193 a1) + (rd t187 a1))) : List Int)).bind fun y196 => ((shape_Check.f k y196).bind fun t197 => (some (y196, t197)))) = some (r1, r2) := by rw [if_pos rfl] at H; exact H
        clear H
        have H := H1
        clear H1
        obtain ⟨y196, hy196⟩ : ∃ y_ : List Int, y_ = (y193.set (a1 : Int).toNat (wrap64 ((rd y193 a1) + (rd t187 a1)))) := ⟨_, rfl⟩
        replace H : ((shape_Check.f k y196).bind fun t197 => (some (y196, t197))) = some (r1, r2) := by first | (rw [hy196]; with_reducible exact H) | (have H2_ := (Option.bind_some _ _).symm.trans H; rw [hy196]; with_reducible exact H2_) | (have H2_ := (Option.bind_some _ _).symm.trans H; with_reducible exact H2_) | with_reducible exact H | (rw [hy196]; exact H) | exact H
        have Ny196 := Aside0.mk hy196
        clear hy196
        replace H := Option.bind_eq_some_iff.mp H
        obtain ⟨t197, A150, H⟩ := H
        replace H : (some (y196, t197)) = some (r1, r2) := H
        have A15 := Aside0.mk A150
        clear A150
        simp only [Option.some.injEq, Prod.mk.injEq] at H
        obtain ⟨rfl, rfl⟩ := H
        go_enter Try.func51, Try.ntmps51
        try go_wp2
        replace HB := Aside0.mk (below_drew1 HB.out)
        have p186 : 0 ≤ (0 : Int) := (by omega)
        have q186 : 0 < (l0.length : Int) := od_
        obtain ⟨ad186, A186_0, c186_0, e186, hx186_0, hl186_0, hi186_0⟩ := at_L1 HR0.out 0 p186 q186
        have hw186_0 := hx186_0
        (try rw [show ((0 : Int)).toNat = 0 from rfl] at hw186_0)
        (try rw [show 0 * 1 = 0 from rfl] at hw186_0)
        (try rw [Addr.add_zero'] at hw186_0)
        cases e186
        have qi186 : (0 < l0.length) = True := eq_true (by omega)
        (try rw [show ((0 : Int)).toNat = 0 from rfl] at hx186_0)
        (try rw [Addr.add_zero'] at hx186_0)
        replace hx186_0 := (HB.out.cell (World.block_lt_of_cell? w _ hx186_0)).trans hx186_0
        have HR186_0 := Aside0.mk hi186_0
        have HC186_0 := Aside0.mk hl186_0
        clear hi186_0 hl186_0
        replace p186 := eq_true p186
        replace q186 := eq_true q186
        have p190 : 0 ≤ (1 : Int) := (by omega)
        have q190 : 1 < (l0.length : Int) := od_
        obtain ⟨ad190, A190_0, c190_0, e190, hx190_0, hl190_0, hi190_0⟩ := at_L1 HR0.out 1 p190 q190
        have hw190_0 := hx190_0
        (try rw [show ((1 : Int)).toNat = 1 from rfl] at hw190_0)
        (try rw [show 1 * 1 = 1 from rfl] at hw190_0)
        (try simp only [Nat.reduceMul, Nat.reduceEqDiff, Go.Addr.add, ↓reduceIte] at hw190_0)
        obtain rfl : ad186 = ad190 := (by injection e190)
        (try simp only [show (1 : Int).toNat = 1 from rfl, Nat.reduceMul, Nat.reduceEqDiff, Go.Addr.add, ↓reduceIte] at hx190_0)
        have qi190 : (1 < l0.length) = True := eq_true (by omega)
        (try rw [show ((1 : Int)).toNat = 1 from rfl] at hx190_0)
        replace hx190_0 := (HB.out.cell (World.block_lt_of_cell? w _ hx190_0)).trans hx190_0
        have HR190_0 := Aside0.mk hi190_0
        have HC190_0 := Aside0.mk hl190_0
        clear hi190_0 hl190_0
        replace p190 := eq_true p190
        replace q190 := eq_true q190
        refine start_ (n := 9) (S := fun w' => w'.cell? ad186 = some (.slice A186_0 (rd_L1 l0 0).length c186_0) ∧ w'.cell? ⟨ad186.block, ad186.off + 1, none⟩ = some (.slice A190_0 (rd_L1 l0 1).length c190_0)) (ds := []) L51_0 (by kernel_rfl) rfl rfl ⟨((HB.out.cell (World.block_lt_of_cell? w _ hw186_0)).trans hw186_0), ((HB.out.cell (World.block_lt_of_cell? w _ hw190_0)).trans hw190_0)⟩ (fun hHeld => ?_); refine with_tabW infer_behind.tab1 infer_behind.bits1 (fun HT_ HW_ => ?_)
        generalize w.drew = w16 at HB HR186_0 HR190_0 hx186_0 hx190_0 hHeld ⊢
        refine pu_ 0 (some 11) L51_1 HT_ ?_
        refine pu_ 1 (some 12) L51_2 HT_ ?_
        refine pu_ 4 (some 15) L51_3 HT_ ?_
        refine pu_ 5 (some 16) L51_4 HT_ ?_
        refine ta_ 2 (some 13) L51_5 HT_ HW_ hHeld ?_ (hy := by rintro w' ⟨s0, s1⟩; go_simp; with_reducible rfl)
        refine ta_ 6 (some 17) L51_6 HT_ HW_ hHeld ?_ (hy := by rintro w' ⟨s0, s1⟩; go_simp; with_reducible rfl)
        refine one_ (i := 3) (N := some 14) L51_7 rfl rfl (one_of HT_.out (by kernel_rfl)) (by decide) (fun K hK => ?_)
        refine goes_ Try.func40 (by kernel_rfl) rfl #[.slice A186_0 (rd_L1 l0 0).length c186_0] (by rfl) rfl rfl (by (try simp only [List.map_toArray, List.map_cons, List.map_nil]); first | done | rfl | (simp only [List.length_drop, List.length_take]; rfl)) ?_
        with_reducible refine (slices_Clone_int_int.calls _ _ (rd_L1 l0 0) t187 _ ?side1 ?side2 A5.out).mono ?_
        (case side1 => exact mvC_ ((Kd.C_below HR186_0.out HB.out)))
        (case side2 => exact HC186_0.out)
        rintro e w17 ⟨v188, rfl, ho0, hb⟩
        refine ⟨_, rfl, ?_⟩
        have HO189 := Aside0.mk (Kd.R_lower ho0 (below_size (bq0_ HB.out)))
        replace HB := Aside0.mk (below_step (bq0_ HB.out) hb)
        (try clear hb)
        (try clear hb2)
        (try clear hk)
        (try clear hi)
        (try clear ho0)
        refine hK.out _ _ ⟨((HB.out.cell (World.block_lt_of_cell? w _ hw186_0)).trans hw186_0), ((HB.out.cell (World.block_lt_of_cell? w _ hw190_0)).trans hw190_0)⟩ (fun hHeld => ?_)
        clear hK K
        refine norm_ (a' := ?_) ?_ ?_
        rotate_left
        ·show Act.put _ (some 14) _ = _
         simp only [Act.put, sA_, sB_, sC_, i64_w, i32_w]
         rfl
        refine pu_ 7 (some 8) L51_8 HT_ ?_
        refine pu_ 8 (some 9) L51_9 HT_ ?_
        refine done_ (done_of HT_.out (by kernel_rfl)) ?_
        obtain ⟨Ao18, co18, eo18⟩ := Kd.R_slice HO189.out
        subst eo18
        have p191 : 0 ≤ (a1 : Int) := od_
        have q191 : a1 < (t187.length : Int) := od_
        obtain ⟨ad191, e191, hx191_0⟩ := Kd.at_int (Kd.R_reads' HO189.out).2.2 a1 p191 q191
        cases e191
        replace p191 := eq_true p191
        replace q191 := eq_true q191
        have p192 : 0 ≤ (a1 : Int) := od_
        have q192 : a1 < ((rd_L1 l0 1).length : Int) := od_
        obtain ⟨ad192, e192, hx192_0⟩ := Kd.at_int HR190_0.out a1 p192 q192
        cases e192
        replace hx192_0 := (HB.out.cell (World.block_lt_of_cell? w _ hx192_0)).trans hx192_0
        replace p192 := eq_true p192
        replace q192 := eq_true q192
        have p11 : 0 ≤ (a1 : Int) := od_
        have q11 : (a1 : Int) < ((t187.length : Int) : Int) := od_
        obtain ⟨go11, co11, eo11, gb11, gl11, cl11, HG11⟩ := Kd.R_form HO189.out (by omega)
        (first | cases eo11 | (injection eo11 with ea_ en_ ec_; (first | subst ea_ | (injection ea_ with ea_; subst ea_)); subst ec_; clear en_))
        have GB11 := Aside0.mk gb11
        have GG11 := Aside0.mk HG11
        clear gb11 gl11 HG11
        (first | simp only [add_plain] at hx191_0 | skip)
        obtain ⟨hx11_0, hf11_0⟩ := Kd.R_celln 0 HO189.out (a1 : Int) p11 q11
        replace p11 := eq_true p11
        replace q11 := eq_true q11
        obtain ⟨hy19_, hz19_⟩ := Kd.R_celln 0 HO189.out (a1 : Int) od_ od_
        have HP19 := Kd.R_putg HO189.out (a1 : Int) (rd (rd_L1 l0 1) a1)
        try go_wp2_with (first | ((with_reducible refine gate_store (t := 3) (p := 33) rfl ?_); refine store_event (t := 3) (p := 33) (v := ?vo_w20) (w1 := (w17.setCell ⟨go11, (a1 : Int).toNat, none⟩ (.int .i64 (rd (rd_L1 l0 1) a1)))) ?hg ?ho ?hn ?hr ?_; (case ho => rfl); (case hg => rfl); (case hn => rfl); (case hr => first | (go_simp; done) | (go_simp; rfl)); intro w20 hw; have hg : w17.grownBy w20 (some go11) := (by rw [hw]; exact HP19.2); have hp_ : Kd.R (Kd.int .i64) 3 w20 w.heap.size (fun _ => True) (.slice (some ⟨go11, 0, none⟩) t187.length co18) y193 := (by rw [hw, Ny193.out]; exact HP19.1); clear HP19; replace HO189 := Aside0.mk (hp_); replace HB := Aside0.mk ((by rw [hw]; exact below_set (HB.out) GB11.out : Below w.heap.size w w20)); clear hg hw hp_) | ((with_reducible refine gate_callee (f := 37) rfl ?_); refine goesL_ (some 36) rfl rfl Try.func37 (by kernel_rfl) rfl #[.slice (some ⟨go11, 0, none⟩) y193.length co18, .slice (some ad192) (rd_L1 l0 1).length c190_0] rfl (by (try simp only [List.map_toArray, List.map_cons, List.map_nil]); first | done | (rw [show y193.length = t187.length from (Kd.R_reads' HO189.out).1.symm] <;> rfl) | rfl | (simp only [List.length_drop, List.length_take]; rfl)) ?_; (with_reducible refine (slices_Equal_int_int.calls k _ _ y193 _ _ (rd_L1 l0 1) true _ ?side1 ?side2 ?side3 ?side4 A12.out).mono ?_); (case side1 => exact mvC_ ((Kd.R_reads' HO189.out).2.2)); (case side2 => rw [show y193.length = t187.length from (Kd.R_reads' HO189.out).1.symm]; exact (Kd.R_reads' HO189.out).2.1); (case side3 => exact mvC_ ((Kd.C_below HR190_0.out HB.out))); (case side4 => exact HC190_0.out); rintro e w' ⟨rfl, ⟨nd, rfl⟩⟩; refine ⟨_, rfl, ?_⟩; (try (rw [drewN_self w20]; generalize hq_ : World.drewN w20 _ = w20; have n0_ : Aside0 (Kd.R (Kd.int .i64) 3 w20 w.heap.size (fun _ => True) (.slice (some ⟨go11, 0, none⟩) t187.length co18) y193) := ⟨by rw [← hq_]; exact (mvR_ HO189.out)⟩; have n1_ : Aside0 (Below w.heap.size w w20) := ⟨by rw [← hq_]; exact (bq0_ HB.out)⟩; clear HO189 HB hq_; have HO189 := n0_; have HB := n1_; clear n0_ n1_)); have p195 : 0 ≤ (a1 : Int) := od_; have q195 : a1 < (y193.length : Int) := (by have h_ : (a1 : Int) < ((t187.length : Int) : Int) := od_; first | (have e_ := (Kd.R_reads' HO189.out).1; omega) | simpa only [Ny193.out, List.length_set] using h_); have ql195 : ((a1 : Int) < ((t187.length : Int) : Int)) = True := eq_true od_; obtain ⟨ad195, e195, hx195_0⟩ := Kd.at_int (Kd.R_reads' HO189.out).2.2 a1 p195 q195; obtain rfl : (⟨go11, 0, none⟩ : Addr) = ad195 := (by injection e195); (first | simp only [add_plain] at hx195_0 | simp only [add_at] at hx195_0 | simp only [Addr.add, Nat.zero_add] at hx195_0 | skip); replace p195 := eq_true p195; replace q195 := eq_true q195; have p14 : 0 ≤ (a1 : Int) := od_; have q14 : (a1 : Int) < ((t187.length : Int) : Int) := od_; obtain ⟨hx14_0, hf14_0⟩ := Kd.R_celln 0 HO189.out (a1 : Int) p14 q14; replace p14 := eq_true p14; replace q14 := eq_true q14; obtain ⟨hy21_, hz21_⟩ := Kd.R_celln 0 HO189.out (a1 : Int) od_ od_; have HP21 := Kd.R_putg HO189.out (a1 : Int) (wrap64 ((rd y193 a1) + (rd t187 a1)))) | ((with_reducible refine gate_store (t := 3) (p := 44) rfl ?_); refine store_event (t := 3) (p := 44) (v := ?vo_w22) (w1 := (w20.setCell ⟨go11, (a1 : Int).toNat, none⟩ (.int .i64 (wrap64 ((rd y193 a1) + (rd t187 a1)))))) ?hg ?ho ?hn ?hr ?_; (case ho => rfl); (case hg => rfl); (case hn => rfl); (case hr => first | (go_simp; done) | (go_simp; rfl)); intro w22 hw; have hg : w20.grownBy w22 (some go11) := (by rw [hw]; exact HP21.2); have hp_ : Kd.R (Kd.int .i64) 3 w22 w.heap.size (fun _ => True) (.slice (some ⟨go11, 0, none⟩) t187.length co18) y196 := (by rw [hw, Ny196.out]; exact HP21.1); clear HP21; replace HO189 := Aside0.mk (hp_); replace HB := Aside0.mk ((by rw [hw]; exact below_set (HB.out) GB11.out : Below w.heap.size w w22)); clear hg hw hp_) | ((with_reducible refine gate_callee (f := 18) rfl ?_); refine goesL_ (some 47) rfl rfl Try.func18 (by kernel_rfl) rfl #[.slice (some ⟨go11, 0, none⟩) y196.length co18] rfl (by (try simp only [List.map_toArray, List.map_cons, List.map_nil]); first | done | (rw [show y196.length = t187.length from (Kd.R_reads' HO189.out).1.symm] <;> rfl) | rfl | (simp only [List.length_drop, List.length_take]; rfl)) ?_; (with_reducible refine (shape_Check.calls k _ _ y196 t197 _ ?side1 ?side2 A15.out).mono ?_); (case side1 => exact mvC_ ((Kd.R_reads' HO189.out).2.2)); (case side2 => rw [show y196.length = t187.length from (Kd.R_reads' HO189.out).1.symm]; exact (Kd.R_reads' HO189.out).2.1); rintro e w' ⟨rfl, ⟨nd, rfl⟩⟩; refine ⟨_, rfl, ?_⟩))
        go_ret2
        exact ⟨_, by first | rfl | (simp <;> rfl) | (simp [*] <;> rfl), mvR_ HO189.out, bq0_ HB.out⟩
       ·replace c13 := Bool.eq_false_iff.mpr c13
        subst c13
        have H1 : (some (([] : List Int), false)) = some (r1, r2) := by rw [if_neg (show ¬ (false = true) by decide)] at H; exact H
        clear H
        have H := H1
        clear H1
        simp only [Option.some.injEq, Prod.mk.injEq] at H
        obtain ⟨rfl, rfl⟩ := H
        go_enter Try.func51, Try.ntmps51
        try go_wp2
        replace HB := Aside0.mk (below_drew1 HB.out)
        have p186 : 0 ≤ (0 : Int) := (by omega)
        have q186 : 0 < (l0.length : Int) := od_
        obtain ⟨ad186, A186_0, c186_0, e186, hx186_0, hl186_0, hi186_0⟩ := at_L1 HR0.out 0 p186 q186
        have hw186_0 := hx186_0
        (try rw [show ((0 : Int)).toNat = 0 from rfl] at hw186_0)
        (try rw [show 0 * 1 = 0 from rfl] at hw186_0)
        (try rw [Addr.add_zero'] at hw186_0)
        cases e186
        have qi186 : (0 < l0.length) = True := eq_true (by omega)
        (try rw [show ((0 : Int)).toNat = 0 from rfl] at hx186_0)
        (try rw [Addr.add_zero'] at hx186_0)
        replace hx186_0 := (HB.out.cell (World.block_lt_of_cell? w _ hx186_0)).trans hx186_0
        have HR186_0 := Aside0.mk hi186_0
        have HC186_0 := Aside0.mk hl186_0
        clear hi186_0 hl186_0
        replace p186 := eq_true p186
        replace q186 := eq_true q186
        have p190 : 0 ≤ (1 : Int) := (by omega)
        have q190 : 1 < (l0.length : Int) := od_
        obtain ⟨ad190, A190_0, c190_0, e190, hx190_0, hl190_0, hi190_0⟩ := at_L1 HR0.out 1 p190 q190
        have hw190_0 := hx190_0
        (try rw [show ((1 : Int)).toNat = 1 from rfl] at hw190_0)
        (try rw [show 1 * 1 = 1 from rfl] at hw190_0)
        (try simp only [Nat.reduceMul, Nat.reduceEqDiff, Go.Addr.add, ↓reduceIte] at hw190_0)
        obtain rfl : ad186 = ad190 := (by injection e190)
        (try simp only [show (1 : Int).toNat = 1 from rfl, Nat.reduceMul, Nat.reduceEqDiff, Go.Addr.add, ↓reduceIte] at hx190_0)
        have qi190 : (1 < l0.length) = True := eq_true (by omega)
        (try rw [show ((1 : Int)).toNat = 1 from rfl] at hx190_0)
        replace hx190_0 := (HB.out.cell (World.block_lt_of_cell? w _ hx190_0)).trans hx190_0
        have HR190_0 := Aside0.mk hi190_0
        have HC190_0 := Aside0.mk hl190_0
        clear hi190_0 hl190_0
        replace p190 := eq_true p190
        replace q190 := eq_true q190
        refine start_ (n := 9) (S := fun w' => w'.cell? ad186 = some (.slice A186_0 (rd_L1 l0 0).length c186_0) ∧ w'.cell? ⟨ad186.block, ad186.off + 1, none⟩ = some (.slice A190_0 (rd_L1 l0 1).length c190_0)) (ds := []) L51_0 (by kernel_rfl) rfl rfl ⟨((HB.out.cell (World.block_lt_of_cell? w _ hw186_0)).trans hw186_0), ((HB.out.cell (World.block_lt_of_cell? w _ hw190_0)).trans hw190_0)⟩ (fun hHeld => ?_); refine with_tabW infer_behind.tab1 infer_behind.bits1 (fun HT_ HW_ => ?_)
        generalize w.drew = w23 at HB HR186_0 HR190_0 hx186_0 hx190_0 hHeld ⊢
        refine pu_ 0 (some 11) L51_1 HT_ ?_
        refine pu_ 1 (some 12) L51_2 HT_ ?_
        refine pu_ 4 (some 15) L51_3 HT_ ?_
        refine pu_ 5 (some 16) L51_4 HT_ ?_
        refine ta_ 2 (some 13) L51_5 HT_ HW_ hHeld ?_ (hy := by rintro w' ⟨s0, s1⟩; go_simp; with_reducible rfl)
        refine ta_ 6 (some 17) L51_6 HT_ HW_ hHeld ?_ (hy := by rintro w' ⟨s0, s1⟩; go_simp; with_reducible rfl)
        refine one_ (i := 3) (N := some 14) L51_7 rfl rfl (one_of HT_.out (by kernel_rfl)) (by decide) (fun K hK => ?_)
        refine goes_ Try.func40 (by kernel_rfl) rfl #[.slice A186_0 (rd_L1 l0 0).length c186_0] (by rfl) rfl rfl (by (try simp only [List.map_toArray, List.map_cons, List.map_nil]); first | done | rfl | (simp only [List.length_drop, List.length_take]; rfl)) ?_
        with_reducible refine (slices_Clone_int_int.calls _ _ (rd_L1 l0 0) t187 _ ?side1 ?side2 A5.out).mono ?_
        (case side1 => exact mvC_ ((Kd.C_below HR186_0.out HB.out)))
        (case side2 => exact HC186_0.out)
        rintro e w24 ⟨v188, rfl, ho0, hb⟩
        refine ⟨_, rfl, ?_⟩
        have HO189 := Aside0.mk (Kd.R_lower ho0 (below_size (bq0_ HB.out)))
        replace HB := Aside0.mk (below_step (bq0_ HB.out) hb)
        (try clear hb)
        (try clear hb2)
        (try clear hk)
        (try clear hi)
        (try clear ho0)
        refine hK.out _ _ ⟨((HB.out.cell (World.block_lt_of_cell? w _ hw186_0)).trans hw186_0), ((HB.out.cell (World.block_lt_of_cell? w _ hw190_0)).trans hw190_0)⟩ (fun hHeld => ?_)
        clear hK K
        refine norm_ (a' := ?_) ?_ ?_
        rotate_left
        ·show Act.put _ (some 14) _ = _
         simp only [Act.put, sA_, sB_, sC_, i64_w, i32_w]
         rfl
        refine pu_ 7 (some 8) L51_8 HT_ ?_
        refine pu_ 8 (some 9) L51_9 HT_ ?_
        refine done_ (done_of HT_.out (by kernel_rfl)) ?_
        obtain ⟨Ao25, co25, eo25⟩ := Kd.R_slice HO189.out
        subst eo25
        have p191 : 0 ≤ (a1 : Int) := od_
        have q191 : a1 < (t187.length : Int) := od_
        obtain ⟨ad191, e191, hx191_0⟩ := Kd.at_int (Kd.R_reads' HO189.out).2.2 a1 p191 q191
        cases e191
        replace p191 := eq_true p191
        replace q191 := eq_true q191
        have p192 : 0 ≤ (a1 : Int) := od_
        have q192 : a1 < ((rd_L1 l0 1).length : Int) := od_
        obtain ⟨ad192, e192, hx192_0⟩ := Kd.at_int HR190_0.out a1 p192 q192
        cases e192
        replace hx192_0 := (HB.out.cell (World.block_lt_of_cell? w _ hx192_0)).trans hx192_0
        replace p192 := eq_true p192
        replace q192 := eq_true q192
        have p11 : 0 ≤ (a1 : Int) := od_
        have q11 : (a1 : Int) < ((t187.length : Int) : Int) := od_
        obtain ⟨go11, co11, eo11, gb11, gl11, cl11, HG11⟩ := Kd.R_form HO189.out (by omega)
        (first | cases eo11 | (injection eo11 with ea_ en_ ec_; (first | subst ea_ | (injection ea_ with ea_; subst ea_)); subst ec_; clear en_))
        have GB11 := Aside0.mk gb11
        have GG11 := Aside0.mk HG11
        clear gb11 gl11 HG11
        (first | simp only [add_plain] at hx191_0 | skip)
        obtain ⟨hx11_0, hf11_0⟩ := Kd.R_celln 0 HO189.out (a1 : Int) p11 q11
        replace p11 := eq_true p11
        replace q11 := eq_true q11
        obtain ⟨hy26_, hz26_⟩ := Kd.R_celln 0 HO189.out (a1 : Int) od_ od_
        have HP26 := Kd.R_putg HO189.out (a1 : Int) (rd (rd_L1 l0 1) a1)
        try go_wp2_with (first | ((with_reducible refine gate_store (t := 3) (p := 33) rfl ?_); refine store_event (t := 3) (p := 33) (v := ?vo_w27) (w1 := (w24.setCell ⟨go11, (a1 : Int).toNat, none⟩ (.int .i64 (rd (rd_L1 l0 1) a1)))) ?hg ?ho ?hn ?hr ?_; (case ho => rfl); (case hg => rfl); (case hn => rfl); (case hr => first | (go_simp; done) | (go_simp; rfl)); intro w27 hw; have hg : w24.grownBy w27 (some go11) := (by rw [hw]; exact HP26.2); have hp_ : Kd.R (Kd.int .i64) 3 w27 w.heap.size (fun _ => True) (.slice (some ⟨go11, 0, none⟩) t187.length co25) y193 := (by rw [hw, Ny193.out]; exact HP26.1); clear HP26; replace HO189 := Aside0.mk (hp_); replace HB := Aside0.mk ((by rw [hw]; exact below_set (HB.out) GB11.out : Below w.heap.size w w27)); clear hg hw hp_) | ((with_reducible refine gate_callee (f := 37) rfl ?_); refine goesL_ (some 36) rfl rfl Try.func37 (by kernel_rfl) rfl #[.slice (some ⟨go11, 0, none⟩) y193.length co25, .slice (some ad192) (rd_L1 l0 1).length c190_0] rfl (by (try simp only [List.map_toArray, List.map_cons, List.map_nil]); first | done | (rw [show y193.length = t187.length from (Kd.R_reads' HO189.out).1.symm] <;> rfl) | rfl | (simp only [List.length_drop, List.length_take]; rfl)) ?_; (with_reducible refine (slices_Equal_int_int.calls k _ _ y193 _ _ (rd_L1 l0 1) false _ ?side1 ?side2 ?side3 ?side4 A12.out).mono ?_); (case side1 => exact mvC_ ((Kd.R_reads' HO189.out).2.2)); (case side2 => rw [show y193.length = t187.length from (Kd.R_reads' HO189.out).1.symm]; exact (Kd.R_reads' HO189.out).2.1); (case side3 => exact mvC_ ((Kd.C_below HR190_0.out HB.out))); (case side4 => exact HC190_0.out); rintro e w' ⟨rfl, ⟨nd, rfl⟩⟩; refine ⟨_, rfl, ?_⟩))
        go_ret2
        exact ⟨_, by first | rfl | (simp <;> rfl) | (simp [*] <;> rfl), by first | exact Kd.R_nil _ _ _ _ _ | exact Kd.N_nil _ _ _ _ _ | exact Kd.V_nil _ _ _ _ _ | exact Kd.Q_nil _ _ _ _ _ | exact Kd.S_nil _ _ _ _ _, bq0_ HB.out⟩
      ·rw [if_neg c10] at H
       exact absurd H (by simp)
     ·rw [if_neg c9] at H
      exact absurd H (by simp)
    ·rw [if_neg c8] at H
     exact absurd H (by simp)
   ·rw [if_neg c7] at H
    have c7b0 : ((t187.length : Int) == ((rd_L1 l0 1).length : Int)) = false := beq_eq_false_iff_ne.mpr c7
    have c7b1 : ((t187.length : Int) != ((rd_L1 l0 1).length : Int)) = true := bne_iff_ne.mpr c7
    have c7b2 : (t187.length == (rd_L1 l0 1).length) = false := by first | simpa using c7 | (simp at c7 ⊢; omega)
    simp only [Option.some.injEq, Prod.mk.injEq] at H
    obtain ⟨rfl, rfl⟩ := H
    go_enter Try.func51, Try.ntmps51
    try go_wp2
    replace HB := Aside0.mk (below_drew1 HB.out)
    have p186 : 0 ≤ (0 : Int) := (by omega)
    have q186 : 0 < (l0.length : Int) := od_
    obtain ⟨ad186, A186_0, c186_0, e186, hx186_0, hl186_0, hi186_0⟩ := at_L1 HR0.out 0 p186 q186
    have hw186_0 := hx186_0
    (try rw [show ((0 : Int)).toNat = 0 from rfl] at hw186_0)
    (try rw [show 0 * 1 = 0 from rfl] at hw186_0)
    (try rw [Addr.add_zero'] at hw186_0)
    cases e186
    have qi186 : (0 < l0.length) = True := eq_true (by omega)
    (try rw [show ((0 : Int)).toNat = 0 from rfl] at hx186_0)
    (try rw [Addr.add_zero'] at hx186_0)
    replace hx186_0 := (HB.out.cell (World.block_lt_of_cell? w _ hx186_0)).trans hx186_0
    have HR186_0 := Aside0.mk hi186_0
    have HC186_0 := Aside0.mk hl186_0
    clear hi186_0 hl186_0
    replace p186 := eq_true p186
    replace q186 := eq_true q186
    have p190 : 0 ≤ (1 : Int) := (by omega)
    have q190 : 1 < (l0.length : Int) := od_
    obtain ⟨ad190, A190_0, c190_0, e190, hx190_0, hl190_0, hi190_0⟩ := at_L1 HR0.out 1 p190 q190
    have hw190_0 := hx190_0
    (try rw [show ((1 : Int)).toNat = 1 from rfl] at hw190_0)
    (try rw [show 1 * 1 = 1 from rfl] at hw190_0)
    (try simp only [Nat.reduceMul, Nat.reduceEqDiff, Go.Addr.add, ↓reduceIte] at hw190_0)
    obtain rfl : ad186 = ad190 := (by injection e190)
    (try simp only [show (1 : Int).toNat = 1 from rfl, Nat.reduceMul, Nat.reduceEqDiff, Go.Addr.add, ↓reduceIte] at hx190_0)
    have qi190 : (1 < l0.length) = True := eq_true (by omega)
    (try rw [show ((1 : Int)).toNat = 1 from rfl] at hx190_0)
    replace hx190_0 := (HB.out.cell (World.block_lt_of_cell? w _ hx190_0)).trans hx190_0
    have HR190_0 := Aside0.mk hi190_0
    have HC190_0 := Aside0.mk hl190_0
    clear hi190_0 hl190_0
    replace p190 := eq_true p190
    replace q190 := eq_true q190
    refine start_ (n := 9) (S := fun w' => w'.cell? ad186 = some (.slice A186_0 (rd_L1 l0 0).length c186_0) ∧ w'.cell? ⟨ad186.block, ad186.off + 1, none⟩ = some (.slice A190_0 (rd_L1 l0 1).length c190_0)) (ds := []) L51_0 (by kernel_rfl) rfl rfl ⟨((HB.out.cell (World.block_lt_of_cell? w _ hw186_0)).trans hw186_0), ((HB.out.cell (World.block_lt_of_cell? w _ hw190_0)).trans hw190_0)⟩ (fun hHeld => ?_); refine with_tabW infer_behind.tab1 infer_behind.bits1 (fun HT_ HW_ => ?_)
    generalize w.drew = w28 at HB HR186_0 HR190_0 hx186_0 hx190_0 hHeld ⊢
    refine pu_ 0 (some 11) L51_1 HT_ ?_
    refine pu_ 1 (some 12) L51_2 HT_ ?_
    refine pu_ 4 (some 15) L51_3 HT_ ?_
    refine pu_ 5 (some 16) L51_4 HT_ ?_
    refine ta_ 2 (some 13) L51_5 HT_ HW_ hHeld ?_ (hy := by rintro w' ⟨s0, s1⟩; go_simp; with_reducible rfl)
    refine ta_ 6 (some 17) L51_6 HT_ HW_ hHeld ?_ (hy := by rintro w' ⟨s0, s1⟩; go_simp; with_reducible rfl)
    refine one_ (i := 3) (N := some 14) L51_7 rfl rfl (one_of HT_.out (by kernel_rfl)) (by decide) (fun K hK => ?_)
    refine goes_ Try.func40 (by kernel_rfl) rfl #[.slice A186_0 (rd_L1 l0 0).length c186_0] (by rfl) rfl rfl (by (try simp only [List.map_toArray, List.map_cons, List.map_nil]); first | done | rfl | (simp only [List.length_drop, List.length_take]; rfl)) ?_
    with_reducible refine (slices_Clone_int_int.calls _ _ (rd_L1 l0 0) t187 _ ?side1 ?side2 A5.out).mono ?_
    (case side1 => exact mvC_ ((Kd.C_below HR186_0.out HB.out)))
    (case side2 => exact HC186_0.out)
    rintro e w29 ⟨v188, rfl, ho0, hb⟩
    refine ⟨_, rfl, ?_⟩
    have HO189 := Aside0.mk (Kd.R_lower ho0 (below_size (bq0_ HB.out)))
    replace HB := Aside0.mk (below_step (bq0_ HB.out) hb)
    (try clear hb)
    (try clear hb2)
    (try clear hk)
    (try clear hi)
    (try clear ho0)
    refine hK.out _ _ ⟨((HB.out.cell (World.block_lt_of_cell? w _ hw186_0)).trans hw186_0), ((HB.out.cell (World.block_lt_of_cell? w _ hw190_0)).trans hw190_0)⟩ (fun hHeld => ?_)
    clear hK K
    refine norm_ (a' := ?_) ?_ ?_
    rotate_left
    ·show Act.put _ (some 14) _ = _
     simp only [Act.put, sA_, sB_, sC_, i64_w, i32_w]
     rfl
    refine pu_ 7 (some 8) L51_8 HT_ ?_
    refine pu_ 8 (some 9) L51_9 HT_ ?_
    refine done_ (done_of HT_.out (by kernel_rfl)) ?_
    obtain ⟨Ao30, co30, eo30⟩ := Kd.R_slice HO189.out
    subst eo30
    try go_wp2
    go_ret2
    exact ⟨_, by first | rfl | (simp <;> rfl) | (simp [*] <;> rfl), by first | exact Kd.R_nil _ _ _ _ _ | exact Kd.N_nil _ _ _ _ _ | exact Kd.V_nil _ _ _ _ _ | exact Kd.Q_nil _ _ _ _ _ | exact Kd.S_nil _ _ _ _ _, bq0_ HB.out⟩
  ·rw [if_neg c6] at H
   exact absurd H (by simp)
 ·rw [if_neg c4] at H
  exact absurd H (by simp)

/-! ### infer_rules: function 23 (given) -/
/-- Which rule a node's shape is told by. -/
def infRule (k : Nat) (op : Int) : List (List Int) → List Int → Option (List Int × Bool) :=
  if op = 1 then infer_rules_1.f else if op = 2 then infer_rules_2.f else if op = 3 then infer_rules_3.f
  else if op = 10 ∨ op = 11 ∨ op = 12 ∨ op = 13 then infer_both.f k else if op = 20 ∨ op = 21 ∨ op = 22 ∨ op = 23 then infer_first.f
  else if op = 30 then infer_rules_6.f k else if op = 40 then infer_rules_4.f k else if op = 41 then infer_rules_5.f k
  else if op = 42 then sidedF infer_part.f else if op = 43 then sidedF (infer_behind.f k) else sidedF infer_together.f
/-- What is known while the rules are laid. -/
structure RlInv (w0 w : World) (es : List (Int × Value)) (bx : List (Nat × Nat)) : Prop where
  bel : Below w0.heap.size w0 w
  im : IM w w0.heap.size es
  lt : w0.heap.size < w.heap.size
  bx : ∀ q ∈ bx, w0.heap.size < q.1 ∧ w.heap[q.1]? = some (.cells #[.func (.func q.2) #[] #[]] 69 (0, 0))
theorem RlInv.next {w0 w w1 : World} {es es' : List (Int × Value)} {bx : List (Nat × Nat)} (h : RlInv w0 w es bx) (hi : IM w1 w0.heap.size es') (hg : w.grownBy w1 (some w0.heap.size)) : RlInv w0 w1 es' bx :=
  ⟨h.bel.grown hg (Nat.le_of_lt h.lt) (fun k hk => by injection hk with hk; omega), hi, Nat.lt_of_lt_of_le h.lt hg.size, fun q hq => ⟨(h.bx q hq).1, (hg.block q.1 (blk_lt (h.bx q hq).2) (by have := (h.bx q hq).1; simp; omega)).trans (h.bx q hq).2⟩⟩
theorem RlInv.box {w0 w w1 : World} {es : List (Int × Value)} {bx : List (Nat × Nat)} {g : Nat} (h : RlInv w0 w es bx) (hw : w1 = w.alloc (.cells #[.func (.func g) #[] #[]] 69)) : RlInv w0 w1 es ((w.heap.size, g) :: bx) := by
  have hb : Below w.heap.size w w1 := by rw [hw]; exact below_alloc (Below.refl _ _) _
  refine ⟨below_step h.bel hb, h.im.below hb h.lt, Nat.lt_of_lt_of_le h.lt hb.size, fun q hq => ?_⟩
  rcases List.mem_cons.mp hq with rfl | hq
  · exact ⟨h.lt, by rw [hw]; exact blk_new _ _⟩
  · exact ⟨(h.bx q hq).1, blk_below (h.bx q hq).2 hb⟩
theorem RlInv.start (w : World) : RlInv w (w.alloc (.map #[] 0)) [] [] :=
  ⟨below_alloc (Below.refl _ _) _, IM.made w, by simp, fun q hq => by cases hq⟩
theorem rule_of_side {w : World} {D : List (List Int) → Int → List Int → Option (List Int × Bool)} {g p : Nat} (hb : w.heap[p]? = some (.cells #[.func (.func g) #[] #[]] 69 (0, 0))) (hD : SideAt g D) : RuleAt w 62 #[.pointer (some ⟨p, 0, none⟩)] (sidedF D) :=
  ⟨A.enters_ Try.prog Try.func62 (by kernel_rfl) rfl, fun A0 c0 l0 A1 c1 l1 r1 r2 W hW h0 h1 h2 h3 hf => infer_sided_1.calls D g p A0 c0 l0 A1 c1 l1 r1 r2 W h0 h1 h2 h3 (blk_below hb hW) hD hf⟩
theorem gkind_cases {op : Int} (h : (gkind op).isSome = true) : op = 1 ∨ op = 2 ∨ op = 3 ∨ op = 10 ∨ op = 11 ∨ op = 12 ∨ op = 13 ∨ op = 20 ∨ op = 21 ∨ op = 22 ∨ op = 23 ∨ op = 30 ∨ op = 40 ∨ op = 41 ∨ op = 42 ∨ op = 43 ∨ op = 50 ∨ op = 51 ∨ op = 52 := by
  obtain ⟨kd, hk⟩ := Option.isSome_iff_exists.mp h
  have := gkind_mem hk
  simp only [kindL, List.mem_cons, Prod.mk.injEq, List.not_mem_nil, or_false] at this
  omega
set_option maxHeartbeats 8000000 in
set_option maxRecDepth 100000 in
theorem infer_rules.calls (k : Nat) (w : World) : Calls Try.prog 23 #[] w fun e w' => ∃ b es, e = .returned (.map (some b)) ∧ IM w' b es ∧ Below w.heap.size w w' ∧ ∀ op : Int, (gkind op).isSome = true → ∃ g lb, imGet op es = some (.func (.func g) #[] lb) ∧ RuleAt w' g lb (infRule k op) := by
  have hmm := @run_makeMap Try.prog
  have HI := Aside0.mk (RlInv.start w)
  go_enter Try.func23, Try.ntmps23
  go_wp2_with (first | ((with_reducible refine wpList_im_put (o := ⟨none, .insert 49 _ _ _, _, _, _, _⟩) rfl _ _ _ (Or.inl rfl) Try.underlying49 Try.underlying3 _ _ HI.out.im rfl rfl rfl ?_); intro w1 h1 g1; have hn := Aside0.mk (HI.out.next h1 g1); clear HI h1 g1; have HI := hn; clear hn) | (go_at_call 49; refine (infer_sided.calls _ _).mono ?_; rintro e w1 ⟨rfl, hw1⟩; have hn := Aside0.mk (HI.out.box hw1); clear HI hw1; have HI := hn; clear hn))
  go_ret
  refine ⟨_, _, rfl, HI.out.im, HI.out.bel, fun op hop => ?_⟩
  have hbx := HI.out.bx
  clear HI
  simp only [List.mem_cons, List.not_mem_nil, or_false, forall_eq_or_imp, forall_eq] at hbx
  obtain ⟨⟨-, b5⟩, ⟨-, b4⟩, ⟨-, b3⟩, ⟨-, b2⟩, ⟨-, b1⟩⟩ := hbx
  have sp : SideAt 50 infer_part.f := ⟨A.enters_ Try.prog Try.func50 (by kernel_rfl) rfl, fun A0 c0 l0 a1 A2 c2 l2 r1 r2 W h0 h1 h2 h3 hf => infer_part.calls A0 c0 l0 a1 A2 c2 l2 r1 r2 W h0 h1 h2 h3 hf⟩
  have sb : SideAt 51 (infer_behind.f k) := ⟨A.enters_ Try.prog Try.func51 (by kernel_rfl) rfl, fun A0 c0 l0 a1 A2 c2 l2 r1 r2 W h0 h1 h2 h3 hf => infer_behind.calls k A0 c0 l0 a1 A2 c2 l2 r1 r2 W h0 h1 h2 h3 hf⟩
  have st : SideAt 52 infer_together.f := ⟨A.enters_ Try.prog Try.func52 (by kernel_rfl) rfl, fun A0 c0 l0 a1 A2 c2 l2 r1 r2 W h0 h1 h2 h3 hf => infer_together.calls A0 c0 l0 a1 A2 c2 l2 r1 r2 W h0 h1 h2 h3 hf⟩
  rcases gkind_cases hop with rfl | rfl | rfl | rfl | rfl | rfl | rfl | rfl | rfl | rfl | rfl | rfl | rfl | rfl | rfl | rfl | rfl | rfl | rfl
  · exact ⟨39, #[], (by first | (simp [imGet_put]; done) | (simp [imGet_put]; rfl)), A.enters_ Try.prog Try.func39 (by kernel_rfl) rfl, fun A0 c0 l0 A1 c1 l1 r1 r2 W _ h0 h1 h2 h3 hf => infer_rules_1.calls A0 c0 l0 A1 c1 l1 r1 r2 W h0 h1 h2 h3 hf⟩
  · exact ⟨41, #[], (by first | (simp [imGet_put]; done) | (simp [imGet_put]; rfl)), A.enters_ Try.prog Try.func41 (by kernel_rfl) rfl, fun A0 c0 l0 A1 c1 l1 r1 r2 W _ h0 h1 h2 h3 hf => infer_rules_2.calls A0 c0 l0 A1 c1 l1 r1 r2 W h0 h1 h2 h3 hf⟩
  · exact ⟨42, #[], (by first | (simp [imGet_put]; done) | (simp [imGet_put]; rfl)), A.enters_ Try.prog Try.func42 (by kernel_rfl) rfl, fun A0 c0 l0 A1 c1 l1 r1 r2 W _ h0 h1 h2 h3 hf => infer_rules_3.calls A0 c0 l0 A1 c1 l1 r1 r2 W h0 h1 h2 h3 hf⟩
  iterate 4 exact ⟨47, #[], (by first | (simp [imGet_put]; done) | (simp [imGet_put]; rfl)), A.enters_ Try.prog Try.func47 (by kernel_rfl) rfl, fun A0 c0 l0 A1 c1 l1 r1 r2 W _ h0 h1 h2 h3 hf => infer_both.calls k A0 c0 l0 A1 c1 l1 r1 r2 W h0 h1 h2 h3 hf⟩
  iterate 4 exact ⟨48, #[], (by first | (simp [imGet_put]; done) | (simp [imGet_put]; rfl)), A.enters_ Try.prog Try.func48 (by kernel_rfl) rfl, fun A0 c0 l0 A1 c1 l1 r1 r2 W _ h0 h1 h2 h3 hf => infer_first.calls A0 c0 l0 A1 c1 l1 r1 r2 W h0 h1 h2 h3 hf⟩
  · exact ⟨46, #[], (by first | (simp [imGet_put]; done) | (simp [imGet_put]; rfl)), A.enters_ Try.prog Try.func46 (by kernel_rfl) rfl, fun A0 c0 l0 A1 c1 l1 r1 r2 W _ h0 h1 h2 h3 hf => infer_rules_6.calls k A0 c0 l0 A1 c1 l1 r1 r2 W h0 h1 h2 h3 hf⟩
  · exact ⟨43, #[], (by first | (simp [imGet_put]; done) | (simp [imGet_put]; rfl)), A.enters_ Try.prog Try.func43 (by kernel_rfl) rfl, fun A0 c0 l0 A1 c1 l1 r1 r2 W _ h0 h1 h2 h3 hf => infer_rules_4.calls k A0 c0 l0 A1 c1 l1 r1 r2 W h0 h1 h2 h3 hf⟩
  · exact ⟨44, #[], (by first | (simp [imGet_put]; done) | (simp [imGet_put]; rfl)), A.enters_ Try.prog Try.func44 (by kernel_rfl) rfl, fun A0 c0 l0 A1 c1 l1 r1 r2 W _ h0 h1 h2 h3 hf => infer_rules_5.calls k A0 c0 l0 A1 c1 l1 r1 r2 W h0 h1 h2 h3 hf⟩
  · exact ⟨62, _, (by first | (simp [imGet_put]; done) | (simp [imGet_put]; rfl)), rule_of_side b1 sp⟩
  · exact ⟨62, _, (by first | (simp [imGet_put]; done) | (simp [imGet_put]; rfl)), rule_of_side b2 sb⟩
  · exact ⟨62, _, (by first | (simp [imGet_put]; done) | (simp [imGet_put]; rfl)), rule_of_side b3 st⟩
  · exact ⟨62, _, (by first | (simp [imGet_put]; done) | (simp [imGet_put]; rfl)), rule_of_side b4 st⟩
  · exact ⟨62, _, (by first | (simp [imGet_put]; done) | (simp [imGet_put]; rfl)), rule_of_side b5 st⟩


end Go.Proofs.Ytalmgghhpgfgoaa.A
