/- Lean functions that answer as the Go functions do, and the proofs that they do; no conditions. Written by this session's own driver: a scratch copy of the kit's print with the session's additions (wip/xprint). -/
import Derived.Test.YtalmgghhpgfgoaaAx0
namespace Go.Proofs.Ytalmgghhpgfgoaa.A
open Go.RowKit Go.Proofs.YtalmgghhpgfgoaaW.PrintWords Go.Proofs.YtalmgghhpgfgoaaW.PrintLast Go.Proofs.YtalmgghhpgfgoaaW.PrintMore
attribute [local go_sem] max2_int min2_int max_two min_two max_three min_three max_four min_four
set_option linter.unusedVariables false
set_option linter.unusedSimpArgs false
def fullerref11_with.f (l0 : List Int) (a1 : Int) (a2 : Int) : Option (List Int) := (some (([] : List Int) : List Int)).bind fun y367 => (if y367.length + l0.length < 17592186044416 then ((some (y367 ++ l0 : List Int)).bind fun y370 => (if 0 ≤ a1 then (if a1 < (y370.length : Int) then (some (y370.set (a1 : Int).toNat a2)) else (none)) else (none))) else (none))
set_option maxHeartbeats 8000000 in
set_option maxRecDepth 100000 in
theorem fullerref11_with.calls (A0 : Option Addr) (c0 : Nat) (l0 : List Int) (a1 : Int) (a2 : Int) (r : List Int) (w : World) (hr0 : Kd.C (Kd.int .i64) w A0 l0.length l0) (hc0 : l0.length ≤ c0) (h : fullerref11_with.f l0 a1 a2 = some r) :
    Calls Try.prog 56 #[.slice A0 l0.length c0, .int .i64 a1, .int .i64 a2] w fun e w' => ∃ v0_ : Value, e = .returned (v0_) ∧ Kd.R (Kd.int .i64) 3 w' w.heap.size (fun _ => True) v0_ r ∧ Below w.heap.size w w' := by
  have HR0 := Aside0.mk hr0
  have HC0 := Aside0.mk hc0
  clear hr0 hc0
  have HB := Aside0.mk (Below.refl w.heap.size w)
  have H : ((some (([] : List Int) : List Int)).bind fun y367 => (if y367.length + l0.length < 17592186044416 then ((some (y367 ++ l0 : List Int)).bind fun y370 => (if 0 ≤ a1 then (if a1 < (y370.length : Int) then (some (y370.set (a1 : Int).toNat a2)) else (none)) else (none))) else (none))) = some r := h
  clear h
  obtain ⟨y367, hy367⟩ : ∃ y_ : List Int, y_ = (([] : List Int)) := ⟨_, rfl⟩
  replace H : (if y367.length + l0.length < 17592186044416 then ((some (y367 ++ l0 : List Int)).bind fun y370 => (if 0 ≤ a1 then (if a1 < (y370.length : Int) then (some (y370.set (a1 : Int).toNat a2)) else (none)) else (none))) else (none)) = some r := by first | (rw [hy367]; with_reducible exact H) | (have H2_ := (Option.bind_some _ _).symm.trans H; rw [hy367]; with_reducible exact H2_) | (have H2_ := (Option.bind_some _ _).symm.trans H; with_reducible exact H2_) | with_reducible exact H | (rw [hy367]; exact H) | exact H
  have Ny367 := Aside0.mk hy367
  clear hy367
  by_cases c4 : y367.length + l0.length < 17592186044416
  · rw [if_pos c4] at H
    have LMc4 := Aside0.mk c4
    clear c4
    obtain ⟨y370, hy370⟩ : ∃ y_ : List Int, y_ = (y367 ++ l0) := ⟨_, rfl⟩
    replace H : (if 0 ≤ a1 then (if a1 < (y370.length : Int) then (some (y370.set (a1 : Int).toNat a2)) else (none)) else (none)) = some r := by first | (rw [hy370]; with_reducible exact H) | (have H2_ := (Option.bind_some _ _).symm.trans H; rw [hy370]; with_reducible exact H2_) | (have H2_ := (Option.bind_some _ _).symm.trans H; with_reducible exact H2_) | with_reducible exact H | (rw [hy370]; exact H) | exact H
    have Ny370 := Aside0.mk hy370
    clear hy370
    by_cases c5 : 0 ≤ a1
    · rw [if_pos c5] at H
      have c5b0 : decide (0 ≤ a1) = true := decide_eq_true c5
      clear c5
      by_cases c6 : a1 < (y370.length : Int)
      · rw [if_pos c6] at H
        have c6b0 : decide (a1 < (y370.length : Int)) = true := decide_eq_true c6
        clear c6
        obtain ⟨y373, hy373⟩ : ∃ y_ : List Int, y_ = (y370.set (a1 : Int).toNat a2) := ⟨_, rfl⟩
        replace H : (some y373) = some r := by first | (rw [hy373]; with_reducible exact H) | (have H2_ := (Option.bind_some _ _).symm.trans H; rw [hy373]; with_reducible exact H2_) | (have H2_ := (Option.bind_some _ _).symm.trans H; with_reducible exact H2_) | with_reducible exact H | (rw [hy373]; exact H) | exact H
        have Ny373 := Aside0.mk hy373
        clear hy373
        obtain rfl := Option.some.inj H
        go_enter Try.func56, Try.ntmps56
        go_wp2_with (first | ((with_reducible refine gate_dst (N := 8) rfl ?_); refine Kd.R_lit (Kd.int .i64) _ 3 ?hg (N := 8) ?hd (xs := ([] : List Int)) (inner := []) (ok := fun _ => True) (okp := fun _ => True) ?hr ?hp (fun _ hk => hk) trivial (Below.refl _ _) (Nat.le_refl _) (by simp) ?_; (case hd => rfl); (case hg => rfl); (case hr => first | (go_simp; done) | (go_simp; rfl)); (case hp => exact (Reps.none _ _)); intro v368 w8 ho9 hb hg_ hnew_; clear hg_ hnew_; (first | rw [← Ny367.out] at ho9 | (simp only [Int.reduceToNat] at ho9; rw [← Ny367.out] at ho9)); have HO369 := Aside0.mk (Kd.R_lower ho9 (below_size (bq0_ HB.out))); replace HB := Aside0.mk (below_step (bq0_ HB.out) hb); clear hb ho9) | ((with_reducible refine gate_builtin (b := .append) (xs := #[.tmp 8, .tmp 9]) rfl ?_); at_builtin; refine Kd.R_append_rows (Kd.int .i64) (w0 := w) w.heap.size rfl (.tmp 8) (.tmp 9) 23 3 (.int .i64 0) 8 rfl Try.underlying23 info3 rfl (by decide) (by omega) v368 y367 l0 _ _ _ (fun _ => True) (fun _ => False) rfl rfl ?aO ?aR (fun _ _ h => h) (fun _ h => h.elim) ?aF ?aB ?aS ?aL ?_; (case aR => repeat (first | exact (Kd.C_below HR0.out HB.out) | (with_reducible refine Kd.C_alloc ?_ _) | (with_reducible refine Kd.C_drewN ?_ _) | (with_reducible refine Kd.C_drew ?_))); (case aB => exact (bq0_ HB.out)); (case aF => exact (fun _ _ => trivial)); (case aO => exact (mvR_ HO369.out)); (case aS => exact (below_size (bq0_ HB.out))); (case aL => have := LMc4.out; omega); intro v371 w10 ho hb hg hat; rw [← Ny370.out] at ho; have HO372 := Aside0.mk (ho); replace HB := Aside0.mk (hb); clear HO369 ho hb hg hat; have p7 : 0 ≤ (a1 : Int) := of_decide_eq_true (by first | (with_reducible assumption) | assumption); have q7 : (a1 : Int) < ((y370.length : Int) : Int) := of_decide_eq_true (by first | (with_reducible assumption) | assumption); obtain ⟨go7, co7, eo7, gb7, gl7, cl7, HG7⟩ := Kd.R_form HO372.out (by omega); (first | cases eo7 | (injection eo7 with ea_ en_ ec_; (first | subst ea_ | (injection ea_ with ea_; subst ea_)); subst ec_; clear en_)); have GB7 := Aside0.mk gb7; have GG7 := Aside0.mk HG7; clear gb7 gl7 HG7; obtain ⟨hx7_0, hf7_0⟩ := Kd.R_celln 0 HO372.out (a1 : Int) p7 q7; replace p7 := eq_true p7; replace q7 := eq_true q7; obtain ⟨hy11_, hz11_⟩ := Kd.R_celln 0 HO372.out (a1 : Int) (of_decide_eq_true (by first | (with_reducible assumption) | assumption)) (of_decide_eq_true (by first | (with_reducible assumption) | assumption)); have HP11 := Kd.R_putg HO372.out (a1 : Int) a2) | ((with_reducible refine gate_store (t := 3) (p := 14) rfl ?_); refine store_event (t := 3) (p := 14) (v := ?vo_w12) (w1 := (w10.setCell ⟨go7, (a1 : Int).toNat, none⟩ (.int .i64 a2))) ?hg ?ho ?hn ?hr ?_; (case ho => rfl); (case hg => rfl); (case hn => rfl); (case hr => first | (go_simp; done) | (go_simp; rfl)); intro w12 hw; have hg : w10.grownBy w12 (some go7) := (by rw [hw]; exact HP11.2); have hp_ : Kd.R (Kd.int .i64) 3 w12 w.heap.size (fun _ => True) (.slice (some ⟨go7, 0, none⟩) y370.length co7) y373 := (by rw [hw, Ny373.out]; exact HP11.1); clear HP11; replace HO372 := Aside0.mk (hp_); replace HB := Aside0.mk ((by rw [hw]; exact below_set (HB.out) GB7.out : Below w.heap.size w w12)); clear hg hw hp_))
        go_ret
        exact ⟨_, by first | rfl | (simp <;> rfl) | (simp [*] <;> rfl), mvR_ HO372.out, bq0_ HB.out⟩
      · rw [if_neg c6] at H
        exact absurd H (by simp)
    · rw [if_neg c5] at H
      exact absurd H (by simp)
  · rw [if_neg c4] at H
    exact absurd H (by simp)
def L57_0 : Array Bool := #[false, false, false, false, false, false, false, false, false, false, false]
def L57_1 : Array Bool := #[false, true, false, false, false, false, false, false, false, false, false]
def L57_2 : Array Bool := #[false, true, true, false, false, false, false, false, false, false, false]
def L57_3 : Array Bool := #[false, true, true, true, false, false, false, false, false, false, false]
def L57_4 : Array Bool := #[false, true, true, true, false, true, false, false, false, false, false]
def L57_5 : Array Bool := #[false, true, true, true, false, true, true, false, false, false, false]
def L57_6 : Array Bool := #[false, true, true, true, false, true, true, true, false, false, false]
def L57_7 : Array Bool := #[false, true, true, true, false, true, true, true, true, false, false]
def L57_8 : Array Bool := #[true, true, true, true, false, true, true, true, true, false, false]
def L57_9 : Array Bool := #[true, true, true, true, true, true, true, true, true, false, false]
def L57_10 : Array Bool := #[true, true, true, true, true, true, true, true, true, true, false]
def L57_11 : Array Bool := #[true, true, true, true, true, true, true, true, true, true, true]
def fullerref11_without.f (l0 : List Int) (a1 : Int) : Option (List Int) := (some (([] : List Int) : List Int)).bind fun y374 => (if 0 ≤ a1 then (if a1 ≤ (l0.length : Int) then (if y374.length + (l0.take (a1 : Int).toNat).length < 17592186044416 then ((some (y374 ++ (l0.take (a1 : Int).toNat) : List Int)).bind fun y378 => (if 0 ≤ (wrap64 (a1 + 1)) then (if (wrap64 (a1 + 1)) ≤ (l0.length : Int) then (if y378.length + (l0.drop ((wrap64 (a1 + 1)) : Int).toNat).length < 17592186044416 then (some (y378 ++ (l0.drop ((wrap64 (a1 + 1)) : Int).toNat))) else (none)) else (none)) else (none))) else (none)) else (none)) else (none))
def fullerref11_without.T1 : Bool × List (List Nat × List Nat) := (true, [([], []), ([], []), ([], []), ([1, 2], [1, 2]), ([0, 3], [0, 3]), ([], []), ([], []), ([6], [6]), ([5, 7], [5, 7]), ([4, 8, 4], [4, 8]), ([9, 9, 0, 1, 2, 3, 4, 5, 6, 7, 8, 9], [9])])
def fullerref11_without.B1 : List Nat := [0, 0, 0, 6, 15, 0, 0, 64, 224, 511, 1023]
theorem fullerref11_without.tab1 : rtab .any (opsOf Try.f57 1) = fullerref11_without.T1 := by kernel_rfl
theorem fullerref11_without.bits1 : waitsOk fullerref11_without.T1.2 fullerref11_without.B1 = true := by kernel_rfl
set_option maxHeartbeats 8000000 in
set_option maxRecDepth 100000 in
theorem fullerref11_without.calls (A0 : Option Addr) (c0 : Nat) (l0 : List Int) (a1 : Int) (r : List Int) (w : World) (hr0 : Kd.C (Kd.int .i64) w A0 l0.length l0) (hc0 : l0.length ≤ c0) (h : fullerref11_without.f l0 a1 = some r) :
  Calls Try.prog 57 #[.slice A0 l0.length c0, .int .i64 a1] w fun e w' => ∃ v0_ : Value, e = .returned (v0_) ∧ Kd.R (Kd.int .i64) 3 w' w.heap.size (fun _ => True) v0_ r ∧ Below w.heap.size w w' := by
 have HR0 := Aside0.mk hr0
 have HC0 := Aside0.mk hc0
 clear hr0 hc0
 have HB := Aside0.mk (Below.refl w.heap.size w)
 have H : ((some (([] : List Int) : List Int)).bind fun y374 => (if 0 ≤ a1 then (if a1 ≤ (l0.length : Int) then (if y374.length + (l0.take (a1 : Int).toNat).length < 17592186044416 then ((some (y374 ++ (l0.take (a1 : Int).toNat) : List Int)).bind fun y378 => (if 0 ≤ (wrap64 (a1 + 1)) then (if (wrap64 (a1 + 1)) ≤ (l0.length : Int) then (if y378.length + (l0.drop ((wrap64 (a1 + 1)) : Int).toNat).length < 17592186044416 then (some (y378 ++ (l0.drop ((wrap64 (a1 + 1)) : Int).toNat))) else (none)) else (none)) else (none))) else (none)) else (none)) else (none))) = some r := h
 clear h
 obtain ⟨y374, hy374⟩ : ∃ y_ : List Int, y_ = (([] : List Int)) := ⟨_, rfl⟩
 replace H : (if 0 ≤ a1 then (if a1 ≤ (l0.length : Int) then (if y374.length + (l0.take (a1 : Int).toNat).length < 17592186044416 then ((some (y374 ++ (l0.take (a1 : Int).toNat) : List Int)).bind fun y378 => (if 0 ≤ (wrap64 (a1 + 1)) then (if (wrap64 (a1 + 1)) ≤ (l0.length : Int) then (if y378.length + (l0.drop ((wrap64 (a1 + 1)) : Int).toNat).length < 17592186044416 then (some (y378 ++ (l0.drop ((wrap64 (a1 + 1)) : Int).toNat))) else (none)) else (none)) else (none))) else (none)) else (none)) else (none)) = some r := by first | (rw [hy374]; with_reducible exact H) | (have H2_ := (Option.bind_some _ _).symm.trans H; rw [hy374]; with_reducible exact H2_) | (have H2_ := (Option.bind_some _ _).symm.trans H; with_reducible exact H2_) | with_reducible exact H | (rw [hy374]; exact H) | exact H
 have Ny374 := Aside0.mk hy374
 clear hy374
 by_cases c3 : 0 ≤ a1
 ·rw [if_pos c3] at H
  have c3b0 := eq_true c3
  have c3b1 : decide (0 ≤ a1) = true := decide_eq_true c3
  clear c3
  by_cases c4 : a1 ≤ (l0.length : Int)
  ·rw [if_pos c4] at H
   have c4b0 := eq_true c4
   have c4b1 : decide (a1 ≤ (l0.length : Int)) = true := decide_eq_true c4
   clear c4
   by_cases c5 : y374.length + (l0.take (a1 : Int).toNat).length < 17592186044416
   ·rw [if_pos c5] at H
    have LMc5 := Aside0.mk c5
    clear c5
    obtain ⟨y378, hy378⟩ : ∃ y_ : List Int, y_ = (y374 ++ (l0.take (a1 : Int).toNat)) := ⟨_, rfl⟩
    replace H : (if 0 ≤ (wrap64 (a1 + 1)) then (if (wrap64 (a1 + 1)) ≤ (l0.length : Int) then (if y378.length + (l0.drop ((wrap64 (a1 + 1)) : Int).toNat).length < 17592186044416 then (some (y378 ++ (l0.drop ((wrap64 (a1 + 1)) : Int).toNat))) else (none)) else (none)) else (none)) = some r := by first | (rw [hy378]; with_reducible exact H) | (have H2_ := (Option.bind_some _ _).symm.trans H; rw [hy378]; with_reducible exact H2_) | (have H2_ := (Option.bind_some _ _).symm.trans H; with_reducible exact H2_) | with_reducible exact H | (rw [hy378]; exact H) | exact H
    have Ny378 := Aside0.mk hy378
    clear hy378
    obtain ⟨ji6, hji6⟩ : ∃ j_ : Int, (wrap64 (a1 + 1)) = j_ := ⟨_, rfl⟩
    replace H : (if 0 ≤ (ji6) then (if (ji6) ≤ (l0.length : Int) then (if y378.length + (l0.drop ((ji6) : Int).toNat).length < 17592186044416 then (some (y378 ++ (l0.drop ((ji6) : Int).toNat))) else (none)) else (none)) else (none)) = some r := by first | (rw [hji6] at H; exact H) | (simp only [hji6] at H ⊢; exact H)
    have hji6w : (IntKind.i64.wrap (a1 + 1)) = ji6 := (i64_w _).trans hji6
    by_cases c7 : 0 ≤ (ji6)
    ·rw [if_pos c7] at H
     have c7b0 := eq_true c7
     have c7b1 : decide (0 ≤ (ji6)) = true := decide_eq_true c7
     clear c7
     by_cases c8 : (ji6) ≤ (l0.length : Int)
     ·rw [if_pos c8] at H
      have c8b0 := eq_true c8
      have c8b1 : decide ((ji6) ≤ (l0.length : Int)) = true := decide_eq_true c8
      clear c8
      by_cases c9 : y378.length + (l0.drop ((ji6) : Int).toNat).length < 17592186044416
      ·rw [if_pos c9] at H
       have LMc9 := Aside0.mk c9
       clear c9
       obtain ⟨y382, hy382⟩ : ∃ y_ : List Int, y_ = (y378 ++ (l0.drop ((ji6) : Int).toNat)) := ⟨_, rfl⟩
       replace H : (some y382) = some r := by first | (rw [hy382]; with_reducible exact H) | (have H2_ := (Option.bind_some _ _).symm.trans H; rw [hy382]; with_reducible exact H2_) | (have H2_ := (Option.bind_some _ _).symm.trans H; with_reducible exact H2_) | with_reducible exact H | (rw [hy382]; exact H) | exact H
       have Ny382 := Aside0.mk hy382
       clear hy382
       obtain rfl := Option.some.inj H
       go_enter Try.func57, Try.ntmps57
       try go_wp2
       replace HB := Aside0.mk (below_drew1 HB.out)
       obtain ⟨i011, hi011, _, hsz11, _⟩ := info_parts info3
       obtain ⟨hcut11, hA11, hC11⟩ := print_take_of (P := Try.prog) (Value.int .i64) 0 23 3 .i64 Try.underlying23 hi011 hsz11 A0 c0 l0 a1 (of_decide_eq_true (by first | (with_reducible assumption) | assumption)) (of_decide_eq_true (by first | (with_reducible assumption) | assumption)) HC0.out
       have HR377 := Aside0.mk (Kd.C_of_reads (h1 := fun _ => rfl) (hA11 _ (Kd.reads_of_C HR0.out)))
       have HC377 := Aside0.mk hC11
       clear hA11 hC11 hi011 hsz11
       obtain ⟨i012, hi012, _, hsz12, _⟩ := info_parts info3
       obtain ⟨A12, hcut12, hA12, hC12⟩ := print_drop_of (P := Try.prog) (Value.int .i64) 0 23 3 .i64 Try.underlying23 hi012 hsz12 A0 c0 l0 (ji6) (of_decide_eq_true (by first | (with_reducible assumption) | assumption)) (of_decide_eq_true (by first | (with_reducible assumption) | assumption)) HC0.out
       have HR381 := Aside0.mk (Kd.C_of_reads (h1 := fun _ => rfl) (hA12 _ (Kd.reads_of_C HR0.out)))
       have HC381 := Aside0.mk hC12
       clear hA12 hC12 hi012 hsz12
       refine start_ (n := 11) (S := fun w' => True) (ds := []) L57_0 (by kernel_rfl) rfl rfl trivial (fun hHeld => ?_); refine with_tabW fullerref11_without.tab1 fullerref11_without.bits1 (fun HT_ HW_ => ?_)
       generalize w.drew = w10 at HB HR377 HR381 hHeld ⊢
       refine pu_ 1 (some 6) L57_1 HT_ ?_
       refine pu_ 2 (some 7) L57_2 HT_ ?_
       refine pu_ 3 (some 8) L57_3 HT_ ?_
       refine pu_ 5 (some 10) L57_4 HT_ ?_
       refine pu_ 6 (some 11) L57_5 HT_ ?_
       refine pu_ 7 (some 12) L57_6 HT_ ?_
       refine pu_ 8 (some 13) L57_7 HT_ ?_
       refine one_ (i := 0) (N := some 5) L57_8 rfl rfl (one_of HT_.out (by kernel_rfl)) (by decide) (fun K hK => ?_)
       refine Kd.R_lit_step (Kd.int .i64) _ 3 ?hg (N := 5) ?hd (xs := ([] : List Int)) (inner := []) (ok := fun _ => True) (okp := fun _ => True) ?hr ?hp (fun _ hk => hk) trivial (Below.refl _ _) (Nat.le_refl _) (by simp) ?_; (case hd => rfl); (case hg => rfl); (case hr => first | (go_simp; done) | (go_simp; rfl)); (case hp => exact (Reps.none _ _))
       intro v375 w13 ho14 hb hg_ hnew_
       clear hg_ hnew_
       (first | rw [← Ny374.out] at ho14 | (simp only [Int.reduceToNat] at ho14; rw [← Ny374.out] at ho14))
       have n0_ := Aside0.mk (Kd.R_lower ho14 (below_size (bq0_ HB.out)))
       have n1_ := Aside0.mk (below_step (bq0_ HB.out) hb)
       clear HB
       have HO376 := n0_
       have HB := n1_
       clear n0_ n1_ hb ho14
       refine hK.out _ _ trivial (fun hHeld => ?_)
       clear hK K
       refine norm_ (a' := ?_) ?_ ?_
       rotate_left
       ·show Act.put _ (some 5) _ = _
        simp only [Act.put, sA_, sB_, sC_, i64_w, i32_w]
        rfl
       refine one_ (i := 4) (N := some 9) L57_9 rfl rfl (one_of HT_.out (by kernel_rfl)) (by decide) (fun K hK => ?_)
       refine Kd.R_append_rows_step (Kd.int .i64) (w0 := w) w.heap.size (by rfl) (.tmp 5) (.tmp 8) 23 3 (.int .i64 0) 8 rfl Try.underlying23 info3 rfl (by decide) (by omega) v375 y374 (l0.take (a1 : Int).toNat) _ _ _ (fun _ => True) (fun _ => False) rfl rfl ?aO ?aR (fun _ _ h => h) (fun _ h => h.elim) ?aF ?aB ?aS ?aL ?_
       (case aR => first | (have t_ := (Kd.C_below HR377.out HB.out); rw [show (l0.take (a1 : Int).toNat).length = a1.toNat from (by rw [List.length_take]; have h_ : (a1 : Int) ≤ (l0.length : Int) := of_decide_eq_true (by first | (with_reducible assumption) | assumption); omega)] at t_; exact t_) | (rw [← show (l0.take (a1 : Int).toNat).length = a1.toNat from (by rw [List.length_take]; have h_ : (a1 : Int) ≤ (l0.length : Int) := of_decide_eq_true (by first | (with_reducible assumption) | assumption); omega)]; repeat (first | exact (Kd.C_below HR377.out HB.out) | (with_reducible refine Kd.C_alloc ?_ _) | (with_reducible refine Kd.C_drewN ?_ _) | (with_reducible refine Kd.C_drew ?_))) | (repeat (first | exact (Kd.C_below HR377.out HB.out) | (with_reducible refine Kd.C_alloc ?_ _) | (with_reducible refine Kd.C_drewN ?_ _) | (with_reducible refine Kd.C_drew ?_))))
       (case aB => exact (bq0_ HB.out))
       (case aF => exact (fun _ _ => trivial))
       (case aO => exact (mvR_ HO376.out))
       (case aS => exact (below_size (bq0_ HB.out)))
       (case aL => have := LMc5.out; have hlx_ := (show (l0.take (a1 : Int).toNat).length = a1.toNat from (by rw [List.length_take]; have h_ : (a1 : Int) ≤ (l0.length : Int) := of_decide_eq_true (by first | (with_reducible assumption) | assumption); omega)); omega)
       intro v379 w15 ho hb hg hat
       rw [← Ny378.out] at ho
       have n0_ := Aside0.mk (hb)
       have n1_ := Aside0.mk (ho)
       clear HB HO376
       have HB := n0_
       have HO380 := n1_
       clear n0_ n1_ ho hb hg hat
       refine hK.out _ _ trivial (fun hHeld => ?_)
       clear hK K
       refine norm_ (a' := ?_) ?_ ?_
       rotate_left
       ·show Act.put _ (some 9) _ = _
        simp only [Act.put, sA_, sB_, sC_, i64_w, i32_w]
        rfl
       refine one_ (i := 9) (N := some 14) L57_10 rfl rfl (one_of HT_.out (by kernel_rfl)) (by decide) (fun K hK => ?_)
       refine Kd.R_append_rows_step (Kd.int .i64) (w0 := w) w.heap.size (by rfl) (.tmp 9) (.tmp 13) 23 3 (.int .i64 0) 8 rfl Try.underlying23 info3 rfl (by decide) (by omega) v379 y378 (l0.drop ((ji6) : Int).toNat) _ _ _ (fun _ => True) (fun _ => False) rfl rfl ?aO ?aR (fun _ _ h => h) (fun _ h => h.elim) ?aF ?aB ?aS ?aL ?_
       (case aR => first | (rw [← show (l0.drop ((ji6) : Int).toNat).length = (l0.length - (ji6).toNat) from List.length_drop]; repeat (first | exact (Kd.C_below HR381.out HB.out) | (with_reducible refine Kd.C_alloc ?_ _) | (with_reducible refine Kd.C_drewN ?_ _) | (with_reducible refine Kd.C_drew ?_))) | (repeat (first | exact (Kd.C_below HR381.out HB.out) | (with_reducible refine Kd.C_alloc ?_ _) | (with_reducible refine Kd.C_drewN ?_ _) | (with_reducible refine Kd.C_drew ?_))))
       (case aB => exact (bq0_ HB.out))
       (case aF => exact (fun _ _ => trivial))
       (case aO => exact (mvR_ HO380.out))
       (case aS => exact (below_size (bq0_ HB.out)))
       (case aL => have := LMc9.out; have hlx_ := (show (l0.drop ((ji6) : Int).toNat).length = (l0.length - (ji6).toNat) from List.length_drop); omega)
       intro v383 w16 ho hb hg hat
       rw [← Ny382.out] at ho
       have n0_ := Aside0.mk (hb)
       have n1_ := Aside0.mk (ho)
       clear HB HO380
       have HB := n0_
       have HO384 := n1_
       clear n0_ n1_ ho hb hg hat
       refine hK.out _ _ trivial (fun hHeld => ?_)
       clear hK K
       refine norm_ (a' := ?_) ?_ ?_
       rotate_left
       ·show Act.put _ (some 14) _ = _
        simp only [Act.put, sA_, sB_, sC_, i64_w, i32_w]
        rfl
       refine pu_ 10 (some 4) L57_11 HT_ ?_
       refine done_ (done_of HT_.out (by kernel_rfl)) ?_
       try go_wp2
       go_ret
       exact ⟨_, by first | rfl | (simp [errW_none, errW_some] <;> rfl) | (simp only [← hji6]; first | rfl | (simp [errW_none, errW_some] <;> rfl)) | (simp [*, errW_none, errW_some] <;> rfl), mvR_ HO384.out, bq0_ HB.out⟩
      ·rw [if_neg c9] at H
       exact absurd H (by simp)
     ·rw [if_neg c8] at H
      exact absurd H (by simp)
    ·rw [if_neg c7] at H
     exact absurd H (by simp)
   ·rw [if_neg c5] at H
    exact absurd H (by simp)
  ·rw [if_neg c4] at H
   exact absurd H (by simp)
 ·rw [if_neg c3] at H
  exact absurd H (by simp)
end Go.Proofs.Ytalmgghhpgfgoaa.A
