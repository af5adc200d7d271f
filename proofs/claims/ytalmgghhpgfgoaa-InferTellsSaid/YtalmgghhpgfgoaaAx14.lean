/- Lean functions that answer as the Go functions do, and the proofs that they do; no conditions. Written by this session's own driver: a scratch copy of the kit's print with the session's additions (wip/xprint). -/
import Derived.Test.YtalmgghhpgfgoaaAx0
import Derived.Test.YtalmgghhpgfgoaaAx10
import Derived.Test.YtalmgghhpgfgoaaAx11
import Derived.Test.YtalmgghhpgfgoaaAx13
namespace Go.Proofs.Ytalmgghhpgfgoaa.A
open Go.RowKit Go.Proofs.YtalmgghhpgfgoaaW.PrintWords Go.Proofs.YtalmgghhpgfgoaaW.PrintLast Go.Proofs.YtalmgghhpgfgoaaW.PrintMore
attribute [local go_sem] max2_int min2_int max_two min_two max_three min_three max_four min_four
set_option linter.unusedVariables false
set_option linter.unusedSimpArgs false
mutual
def fullerref02_Join.j0 : Nat → List Int → List Int → Bool → Option (List Int × Int)
 | 0, _, _, _ => none
 | k + 1, x0, x1, x23 => if x23 = true then (some (([] : List Int), 20)) else ((fullerref02_Wide.f k x0 (x1.length : Int)).bind fun t337 => ((fullerref02_Wide.f k x1 (x0.length : Int)).bind fun t340 => (fullerref02_Join.l0 k t337 t340 ([] : List Int) 0)))
def fullerref02_Join.l0 : Nat → List Int → List Int → List Int → Int → Option (List Int × Int)
 | 0, _, _, _, _ => none
 | k + 1, x8, x9, x10, x11 => if x11 < (x8.length : Int) then (if 0 ≤ x11 then (if x11 < (x9.length : Int) then (if (rd x8 x11) = 1 then (if (rd x9 x11) = 1 then (if x10.length < 17592186044416 then (fullerref02_Join.l0 k x8 x9 (x10 ++ [mx (rd x8 x11) (rd x9 x11)]) (wrap64 (x11 + 1))) else (none)) else (if (rd x9 x11) = (mx (rd x8 x11) (rd x9 x11)) then (if x10.length < 17592186044416 then (fullerref02_Join.l0 k x8 x9 (x10 ++ [mx (rd x8 x11) (rd x9 x11)]) (wrap64 (x11 + 1))) else (none)) else (some (([] : List Int), 20)))) else (if (rd x8 x11) = (mx (rd x8 x11) (rd x9 x11)) then (if (rd x9 x11) = 1 then (if x10.length < 17592186044416 then (fullerref02_Join.l0 k x8 x9 (x10 ++ [mx (rd x8 x11) (rd x9 x11)]) (wrap64 (x11 + 1))) else (none)) else (if (rd x9 x11) = (mx (rd x8 x11) (rd x9 x11)) then (if x10.length < 17592186044416 then (fullerref02_Join.l0 k x8 x9 (x10 ++ [mx (rd x8 x11) (rd x9 x11)]) (wrap64 (x11 + 1))) else (none)) else (some (([] : List Int), 20)))) else (some (([] : List Int), 20)))) else (none)) else (none)) else ((fullerref02_Check.f k x10).bind fun t363 => (if t363 = true then (some (x10, 0)) else (some (([] : List Int), 20))))
end
def fullerref02_Join.f (k : Nat) (l0 : List Int) (l1 : List Int) : Option (List Int × Int) := (fullerref02_Check.f k l0).bind fun t335 => ((fullerref02_Check.f k l1).bind fun t336 => (if t335 = true then (fullerref02_Join.j0 k l0 l1 (!t336)) else (fullerref02_Join.j0 k l0 l1 true)))
set_option maxHeartbeats 8000000 in
set_option maxRecDepth 100000 in
theorem fullerref02_Join.calls (k : Nat) (A0 : Option Addr) (c0 : Nat) (l0 : List Int) (A1 : Option Addr) (c1 : Nat) (l1 : List Int) (r1 : List Int) (r2 : Int) (w : World) (hr0 : Kd.C (Kd.int .i64) w A0 l0.length l0) (hc0 : l0.length ≤ c0) (hr1 : Kd.C (Kd.int .i64) w A1 l1.length l1) (hc1 : l1.length ≤ c1) (h : fullerref02_Join.f k l0 l1 = some (r1, r2)) :
  Calls Try.prog 27 #[.slice A0 l0.length c0, .slice A1 l1.length c1] w fun e w' => ∃ v0_ : Value, e = .returned (.tuple #[v0_, .int .i64 r2]) ∧ Kd.R (Kd.int .i64) 3 w' w.heap.size (fun _ => True) v0_ r1 ∧ Below w.heap.size w w' := by
 have HR0 := Aside0.mk hr0
 have HC0 := Aside0.mk hc0
 clear hr0 hc0
 have HR1 := Aside0.mk hr1
 have HC1 := Aside0.mk hc1
 clear hr1 hc1
 have HB := Aside0.mk (Below.refl w.heap.size w)
 have H : ((fullerref02_Check.f k l0).bind fun t335 => ((fullerref02_Check.f k l1).bind fun t336 => (if t335 = true then (fullerref02_Join.j0 k l0 l1 (!t336)) else (fullerref02_Join.j0 k l0 l1 true)))) = some (r1, r2) := h
 clear h
 replace H := Option.bind_eq_some_iff.mp H
 obtain ⟨t335, A30, H⟩ := H
 replace H : ((fullerref02_Check.f k l1).bind fun t336 => (if t335 = true then (fullerref02_Join.j0 k l0 l1 (!t336)) else (fullerref02_Join.j0 k l0 l1 true))) = some (r1, r2) := H
 have A3 := Aside0.mk A30
 clear A30
 replace H := Option.bind_eq_some_iff.mp H
 obtain ⟨t336, A40, H⟩ := H
 replace H : (if t335 = true then (fullerref02_Join.j0 k l0 l1 (!t336)) else (fullerref02_Join.j0 k l0 l1 true)) = some (r1, r2) := H
 have A4 := Aside0.mk A40
 clear A40
 have HC5 := Aside0.mk H
 clear H
 go_enter Try.func27, Try.ntmps27
 go_upto_region 3 with (first | (go_at_call 26; (with_reducible refine (fullerref02_Check.calls k _ _ l0 t335 _ ?side1 ?side2 A3.out).mono ?_); (case side1 => exact mvC_ (HR0.out)); (case side2 => exact HC0.out); rintro e w' ⟨rfl, ⟨nd, rfl⟩⟩; (try first | exact ⟨rfl, _, World.drewN_drewN _ _ _⟩ | exact ⟨rfl, _, Eq.trans (World.drewN_drewN _ _ _) (congrArg (World.drewN _) (Nat.add_assoc _ _ _))⟩)) | (go_at_call 26; (with_reducible refine (fullerref02_Check.calls k _ _ l1 t336 _ ?side1 ?side2 A4.out).mono ?_); (case side1 => exact mvC_ (HR1.out)); (case side2 => exact HC1.out); rintro e w' ⟨rfl, ⟨nd, rfl⟩⟩; (try first | exact ⟨rfl, _, World.drewN_drewN _ _ _⟩ | exact ⟨rfl, _, Eq.trans (World.drewN_drewN _ _ _) (congrArg (World.drewN _) (Nat.add_assoc _ _ _))⟩)))
 repeat (go_quiet (first | (go_at_call 26; (with_reducible refine (fullerref02_Check.calls k _ _ l0 t335 _ ?side1 ?side2 A3.out).mono ?_); (case side1 => exact mvC_ (HR0.out)); (case side2 => exact HC0.out); rintro e w' ⟨rfl, ⟨nd, rfl⟩⟩; (try first | exact ⟨rfl, _, World.drewN_drewN _ _ _⟩ | exact ⟨rfl, _, Eq.trans (World.drewN_drewN _ _ _) (congrArg (World.drewN _) (Nat.add_assoc _ _ _))⟩)) | (go_at_call 26; (with_reducible refine (fullerref02_Check.calls k _ _ l1 t336 _ ?side1 ?side2 A4.out).mono ?_); (case side1 => exact mvC_ (HR1.out)); (case side2 => exact HC1.out); rintro e w' ⟨rfl, ⟨nd, rfl⟩⟩; (try first | exact ⟨rfl, _, World.drewN_drewN _ _ _⟩ | exact ⟨rfl, _, Eq.trans (World.drewN_drewN _ _ _) (congrArg (World.drewN _) (Nat.add_assoc _ _ _))⟩))); go_upto_region 3 with (first | (go_at_call 26; (with_reducible refine (fullerref02_Check.calls k _ _ l0 t335 _ ?side1 ?side2 A3.out).mono ?_); (case side1 => exact mvC_ (HR0.out)); (case side2 => exact HC0.out); rintro e w' ⟨rfl, ⟨nd, rfl⟩⟩; (try first | exact ⟨rfl, _, World.drewN_drewN _ _ _⟩ | exact ⟨rfl, _, Eq.trans (World.drewN_drewN _ _ _) (congrArg (World.drewN _) (Nat.add_assoc _ _ _))⟩)) | (go_at_call 26; (with_reducible refine (fullerref02_Check.calls k _ _ l1 t336 _ ?side1 ?side2 A4.out).mono ?_); (case side1 => exact mvC_ (HR1.out)); (case side2 => exact HC1.out); rintro e w' ⟨rfl, ⟨nd, rfl⟩⟩; (try first | exact ⟨rfl, _, World.drewN_drewN _ _ _⟩ | exact ⟨rfl, _, Eq.trans (World.drewN_drewN _ _ _) (congrArg (World.drewN _) (Nat.add_assoc _ _ _))⟩))))
 (try simp only [Act.put, sA_, sB_, sC_])
 go_cut [23] (fun v23 wc => ∃ (kq : Nat) (x23_4 : Bool), v23 = .bool x23_4 ∧ Aside0 (fullerref02_Join.j0 kq l0 l1 x23_4 = some (r1, r2)) ∧ Aside0 (kq ≤ k) ∧ Aside0 (Below w.heap.size w wc))
 case first =>
  have H := HC5.out
  clear HC5
  by_cases c6 : t335 = true
  ·subst c6
   have H1 : (fullerref02_Join.j0 k l0 l1 (!t336)) = some (r1, r2) := by rw [if_pos rfl] at H; exact H
   clear H
   have H := H1
   clear H1
   have H' := Aside0.mk H
   clear H
   go_wp2
   repeat (go_quiet (fail); try go_wp2)
   go_meet
   case rel => exact ⟨_, (!t336), (by first | rfl | (simp; done) | (simp [*]; done)), H', ⟨by first | omega | exact Nat.le_refl _⟩, ⟨bq0_ HB.out⟩⟩
  ·replace c6 := Bool.eq_false_iff.mpr c6
   subst c6
   have H1 : (fullerref02_Join.j0 k l0 l1 true) = some (r1, r2) := by rw [if_neg (show ¬ (false = true) by decide)] at H; exact H
   clear H
   have H := H1
   clear H1
   have H' := Aside0.mk H
   clear H
   go_wp2
   repeat (go_quiet (fail); try go_wp2)
   go_meet
   case rel => exact ⟨_, (true), (by first | rfl | (simp; done) | (simp [*]; done)), H', ⟨by first | omega | exact Nat.le_refl _⟩, ⟨bq0_ HB.out⟩⟩
 case rest =>
  clear HC5
  try clear c1
  try clear c2
  try clear p2
  try clear c6
  obtain ⟨kq, x23_4, rfl, HA, HJ4, HB⟩ := hcut
  cases kq with
  | zero => exact absurd HA.out (by simp [fullerref02_Join.j0])
  | succ kj4 =>
   have H := HA.out
   clear HA
   simp only [fullerref02_Join.j0] at H
   by_cases c7 : x23_4 = true
   ·subst c7
    have H1 : (some (([] : List Int), 20)) = some (r1, r2) := by rw [if_pos rfl] at H; exact H
    clear H
    have H := H1
    clear H1
    simp only [Option.some.injEq, Prod.mk.injEq] at H
    obtain ⟨rfl, rfl⟩ := H
    go_wp2
    repeat (go_quiet (fail); try go_wp2)
    go_ret2
    exact ⟨_, by first | rfl | (simp <;> rfl) | (simp [*] <;> rfl), by first | exact Kd.R_nil _ _ _ _ _ | exact Kd.N_nil _ _ _ _ _ | exact Kd.V_nil _ _ _ _ _ | exact Kd.Q_nil _ _ _ _ _ | exact Kd.S_nil _ _ _ _ _, bq0_ HB.out⟩
   ·replace c7 := Bool.eq_false_iff.mpr c7
    subst c7
    have H1 : ((fullerref02_Wide.f kj4 l0 (l1.length : Int)).bind fun t337 => ((fullerref02_Wide.f kj4 l1 (l0.length : Int)).bind fun t340 => (fullerref02_Join.l0 kj4 t337 t340 ([] : List Int) 0))) = some (r1, r2) := by rw [if_neg (show ¬ (false = true) by decide)] at H; exact H
    clear H
    have H := H1
    clear H1
    replace H := Option.bind_eq_some_iff.mp H
    obtain ⟨t337, A80, H⟩ := H
    replace H : ((fullerref02_Wide.f kj4 l1 (l0.length : Int)).bind fun t340 => (fullerref02_Join.l0 kj4 t337 t340 ([] : List Int) 0)) = some (r1, r2) := H
    have A8 := Aside0.mk A80
    clear A80
    replace H := Option.bind_eq_some_iff.mp H
    obtain ⟨t340, A90, H⟩ := H
    replace H : (fullerref02_Join.l0 kj4 t337 t340 ([] : List Int) 0) = some (r1, r2) := H
    have A9 := Aside0.mk A90
    clear A90
    have H' := Aside0.mk H
    clear H
    go_wp2_with (first | (go_at_call 54; (with_reducible refine (fullerref02_Wide.calls kj4 _ _ l0 (l1.length : Int) t337 _ ?side1 ?side2 A8.out).mono ?_); (case side1 => exact mvC_ ((Kd.C_below HR0.out HB.out))); (case side2 => exact HC0.out); rintro e w10 ⟨v338, rfl, ho0, hb⟩; have HO339 := Aside0.mk (Kd.R_lower ho0 (below_size (bq0_ HB.out))); replace HB := Aside0.mk (below_step (bq0_ HB.out) hb); (try clear hb); (try clear ho0)) | (go_at_call 54; (with_reducible refine (fullerref02_Wide.calls kj4 _ _ l1 (l0.length : Int) t340 _ ?side1 ?side2 A9.out).mono ?_); (case side1 => exact mvC_ ((Kd.C_below HR1.out HB.out))); (case side2 => exact HC1.out); rintro e w11 ⟨v341, rfl, ho0, hb⟩; have HO342 := Aside0.mk (Kd.R_lower (Kd.R_new' ho0 (Kd.R_lt (mvR_ HO339.out))) (below_size (bq0_ HB.out))); replace HO339 := Aside0.mk (Kd.R_elder' (mvR_ HO339.out) (Kd.R_base ho0) hb); replace HB := Aside0.mk (below_step (bq0_ HB.out) hb); (try clear hb); (try clear ho0)))
    repeat (go_quiet (first | (go_at_call 54; (with_reducible refine (fullerref02_Wide.calls kj4 _ _ l0 (l1.length : Int) t337 _ ?side1 ?side2 A8.out).mono ?_); (case side1 => exact mvC_ ((Kd.C_below HR0.out HB.out))); (case side2 => exact HC0.out); rintro e w10 ⟨v338, rfl, ho0, hb⟩; have HO339 := Aside0.mk (Kd.R_lower ho0 (below_size (bq0_ HB.out))); replace HB := Aside0.mk (below_step (bq0_ HB.out) hb); (try clear hb); (try clear ho0)) | (go_at_call 54; (with_reducible refine (fullerref02_Wide.calls kj4 _ _ l1 (l0.length : Int) t340 _ ?side1 ?side2 A9.out).mono ?_); (case side1 => exact mvC_ ((Kd.C_below HR1.out HB.out))); (case side2 => exact HC1.out); rintro e w11 ⟨v341, rfl, ho0, hb⟩; have HO342 := Aside0.mk (Kd.R_lower (Kd.R_new' ho0 (Kd.R_lt (mvR_ HO339.out))) (below_size (bq0_ HB.out))); replace HO339 := Aside0.mk (Kd.R_elder' (mvR_ HO339.out) (Kd.R_base ho0) hb); replace HB := Aside0.mk (below_step (bq0_ HB.out) hb); (try clear hb); (try clear ho0))); try go_wp2_with (first | (go_at_call 54; (with_reducible refine (fullerref02_Wide.calls kj4 _ _ l0 (l1.length : Int) t337 _ ?side1 ?side2 A8.out).mono ?_); (case side1 => exact mvC_ ((Kd.C_below HR0.out HB.out))); (case side2 => exact HC0.out); rintro e w10 ⟨v338, rfl, ho0, hb⟩; have HO339 := Aside0.mk (Kd.R_lower ho0 (below_size (bq0_ HB.out))); replace HB := Aside0.mk (below_step (bq0_ HB.out) hb); (try clear hb); (try clear ho0)) | (go_at_call 54; (with_reducible refine (fullerref02_Wide.calls kj4 _ _ l1 (l0.length : Int) t340 _ ?side1 ?side2 A9.out).mono ?_); (case side1 => exact mvC_ ((Kd.C_below HR1.out HB.out))); (case side2 => exact HC1.out); rintro e w11 ⟨v341, rfl, ho0, hb⟩; have HO342 := Aside0.mk (Kd.R_lower (Kd.R_new' ho0 (Kd.R_lt (mvR_ HO339.out))) (below_size (bq0_ HB.out))); replace HO339 := Aside0.mk (Kd.R_elder' (mvR_ HO339.out) (Kd.R_base ho0) hb); replace HB := Aside0.mk (below_step (bq0_ HB.out) hb); (try clear hb); (try clear ho0))))
    go_loopg [10, 11] kj4 (fun kq v10 v11 w' => ∃ (x10_2 : List Int) (x11_2 : Int), v11 = .int .i64 x11_2 ∧ Aside0 (fullerref02_Join.l0 kq t337 t340 x10_2 x11_2 = some (r1, r2)) ∧ Aside0 (kq ≤ kj4) ∧ Aside0 (Kd.R (Kd.int .i64) 3 w' w.heap.size (fun k_ => some k_ ≠ (v341 : Value).ownBlock ∧ some k_ ≠ (v10 : Value).ownBlock) v338 t337) ∧ Aside0 (Kd.R (Kd.int .i64) 3 w' w.heap.size (fun k_ => some k_ ≠ (v338 : Value).ownBlock ∧ some k_ ≠ (v10 : Value).ownBlock) v341 t340) ∧ Aside0 (Kd.R (Kd.int .i64) 3 w' w.heap.size (fun k_ => some k_ ≠ (v338 : Value).ownBlock ∧ some k_ ≠ (v341 : Value).ownBlock) v10 x10_2) ∧ Aside0 (Below w.heap.size w w'))
    case atStart => exact ⟨(([] : List Int)), (0), (by first | rfl | (simp; done) | (simp [*]; done)), H', ⟨Nat.le_refl _⟩, ⟨by (with_reducible repeat (first | apply Kd.R_alloc | apply Kd.R_drewN | apply Kd.R_drew)); exact Kd.R_mono HO339.out (fun _ hk => ⟨hk.2, (by simp [Value.ownBlock])⟩)⟩, ⟨by (with_reducible repeat (first | apply Kd.R_alloc | apply Kd.R_drewN | apply Kd.R_drew)); exact Kd.R_mono HO342.out (fun _ hk => ⟨hk.2, (by simp [Value.ownBlock])⟩)⟩, ⟨by first | exact Kd.R_nil _ _ _ _ _ | exact Kd.N_nil _ _ _ _ _ | exact Kd.V_nil _ _ _ _ _ | exact Kd.Q_nil _ _ _ _ _ | exact Kd.S_nil _ _ _ _ _⟩, ⟨bq0_ HB.out⟩⟩
    case round =>
     clear H'
     try clear c1
     try clear c2
     try clear p2
     try clear c6
     try clear c7
     try clear p2
     obtain ⟨x10_2, x11_2, rfl, HA, HK2, HO_8, HO_9, HO_10, HB⟩ := hrel
     cases gk with
     | zero => exact absurd HA.out (by simp [fullerref02_Join.l0])
     | succ k2 =>
      have H := HA.out
      clear HA
      simp only [fullerref02_Join.l0] at H
      by_cases c12 : x11_2 < (t337.length : Int)
      ·rw [if_pos c12] at H
       have c12b0 : decide (x11_2 < (t337.length : Int)) = true := decide_eq_true c12
       clear c12
       by_cases c13 : 0 ≤ x11_2
       ·rw [if_pos c13] at H
        have c13b0 : decide (0 ≤ x11_2) = true := decide_eq_true c13
        clear c13
        by_cases c14 : x11_2 < (t340.length : Int)
        ·rw [if_pos c14] at H
         have c14b0 : decide (x11_2 < (t340.length : Int)) = true := decide_eq_true c14
         clear c14
         obtain ⟨ji15, hji15⟩ : ∃ j_ : Int, (mx (rd t337 x11_2) (rd t340 x11_2)) = j_ := ⟨_, rfl⟩
         replace H : (if (rd t337 x11_2) = 1 then (if (rd t340 x11_2) = 1 then (if x10_2.length < 17592186044416 then (fullerref02_Join.l0 k2 t337 t340 (x10_2 ++ [ji15]) (wrap64 (x11_2 + 1))) else (none)) else (if (rd t340 x11_2) = (ji15) then (if x10_2.length < 17592186044416 then (fullerref02_Join.l0 k2 t337 t340 (x10_2 ++ [ji15]) (wrap64 (x11_2 + 1))) else (none)) else (some (([] : List Int), 20)))) else (if (rd t337 x11_2) = (ji15) then (if (rd t340 x11_2) = 1 then (if x10_2.length < 17592186044416 then (fullerref02_Join.l0 k2 t337 t340 (x10_2 ++ [ji15]) (wrap64 (x11_2 + 1))) else (none)) else (if (rd t340 x11_2) = (ji15) then (if x10_2.length < 17592186044416 then (fullerref02_Join.l0 k2 t337 t340 (x10_2 ++ [ji15]) (wrap64 (x11_2 + 1))) else (none)) else (some (([] : List Int), 20)))) else (some (([] : List Int), 20)))) = some (r1, r2) := by first | (rw [hji15] at H; exact H) | (simp only [hji15] at H ⊢; exact H)
         have hji15_ : (if (rd t337 x11_2) < (rd t340 x11_2) then (rd t340 x11_2) else (rd t337 x11_2)) = ji15 := hji15
         by_cases c16 : (rd t337 x11_2) = 1
         ·rw [if_pos c16] at H
          obtain ⟨c16b0, c16b1⟩ := eqT_ c16
          clear c16
          by_cases c17 : (rd t340 x11_2) = 1
          ·rw [if_pos c17] at H
           obtain ⟨c17b0, c17b1⟩ := eqT_ c17
           clear c17
           by_cases c18 : x10_2.length < 17592186044416
           ·rw [if_pos c18] at H
            have LMc18 := Aside0.mk c18
            clear c18
            obtain ⟨y347, hy347⟩ : ∃ y_ : List Int, y_ = (x10_2 ++ [ji15]) := ⟨_, rfl⟩
            replace H : (fullerref02_Join.l0 k2 t337 t340 y347 (wrap64 (x11_2 + 1))) = some (r1, r2) := by first | (rw [hy347]; with_reducible exact H) | (have H2_ := (Option.bind_some _ _).symm.trans H; rw [hy347]; with_reducible exact H2_) | (have H2_ := (Option.bind_some _ _).symm.trans H; with_reducible exact H2_) | with_reducible exact H | (rw [hy347]; exact H) | exact H
            have Ny347 := Aside0.mk hy347
            clear hy347
            have H' := Aside0.mk H
            clear H
            obtain ⟨Ao19, co19, eo19⟩ := Kd.R_slice HO_8.out
            subst eo19
            have p343 : 0 ≤ (x11_2 : Int) := od_
            have q343 : x11_2 < (t337.length : Int) := od_
            obtain ⟨ad343, e343, hx343_0⟩ := Kd.at_int (Kd.R_reads' HO_8.out).2.2 x11_2 p343 q343
            cases e343
            replace p343 := eq_true p343
            replace q343 := eq_true q343
            obtain ⟨Ao20, co20, eo20⟩ := Kd.R_slice HO_9.out
            subst eo20
            have p344 : 0 ≤ (x11_2 : Int) := od_
            have q344 : x11_2 < (t340.length : Int) := od_
            obtain ⟨ad344, e344, hx344_0⟩ := Kd.at_int (Kd.R_reads' HO_9.out).2.2 x11_2 p344 q344
            cases e344
            replace p344 := eq_true p344
            replace q344 := eq_true q344
            have p345 : 0 ≤ (x11_2 : Int) := od_
            have q345 : x11_2 < (t337.length : Int) := od_
            obtain ⟨ad345, e345, hx345_0⟩ := Kd.at_int (Kd.R_reads' HO_8.out).2.2 x11_2 p345 q345
            obtain rfl : ad343 = ad345 := (by injection e345)
            replace p345 := eq_true p345
            replace q345 := eq_true q345
            have p346 : 0 ≤ (x11_2 : Int) := od_
            have q346 : x11_2 < (t340.length : Int) := od_
            obtain ⟨ad346, e346, hx346_0⟩ := Kd.at_int (Kd.R_reads' HO_9.out).2.2 x11_2 p346 q346
            obtain rfl : ad344 = ad346 := (by injection e346)
            replace p346 := eq_true p346
            replace q346 := eq_true q346
            go_wp2_with (first | ((with_reducible refine gate_builtin (b := .append) (xs := #[.tmp 75, .tmp 77]) rfl ?_); at_builtin; refine Kd.R_append (Kd.int .i64) (w0 := w) w.heap.size rfl (.tmp 75) (.tmp 77) 23 3 (.int .i64 0) 8 rfl Try.underlying23 info3 rfl (by decide) (by omega) u10 x10_2 ji15 [.int .i64 ji15] (fun k_ => some k_ ≠ (.slice (some ad343) t337.length co19 : Value).ownBlock ∧ some k_ ≠ (.slice (some ad344) t340.length co20 : Value).ownBlock) (fun _ => False) rfl rfl ?aP (fun _ hk => hk.elim) ?aF ?aO ?aB ?aS ?aL ?_; (case aP => exact rfl); (case aB => exact (bq0_ HB.out)); (case aF => exact (fun k_ hk => ⟨Kd.fresh' (Kd.R_lt (mvR_ HO_8.out)) k_ hk, Kd.fresh' (Kd.R_lt (mvR_ HO_9.out)) k_ hk⟩)); (case aO => exact (mvR_ HO_10.out)); (case aS => exact (below_size (bq0_ HB.out))); (case aL => have := LMc18.out; omega); intro v348 w21 ho hb hg hat; rw [← Ny347.out] at ho; have HO349 := Aside0.mk (ho); replace HO_8 := Aside0.mk (Kd.R_after (ok := (fun k_ => some k_ ≠ (.slice (some ad344) t340.length co20 : Value).ownBlock)) (mvR_ HO_8.out) hg hat); replace HO_9 := Aside0.mk (Kd.R_after (ok := (fun k_ => some k_ ≠ (.slice (some ad343) t337.length co19 : Value).ownBlock)) (mvR_ HO_9.out) hg hat); replace HB := Aside0.mk (hb); clear HO_10 ho hb hg hat))
            repeat (go_quiet (first | ((with_reducible refine gate_builtin (b := .append) (xs := #[.tmp 75, .tmp 77]) rfl ?_); at_builtin; refine Kd.R_append (Kd.int .i64) (w0 := w) w.heap.size rfl (.tmp 75) (.tmp 77) 23 3 (.int .i64 0) 8 rfl Try.underlying23 info3 rfl (by decide) (by omega) u10 x10_2 ji15 [.int .i64 ji15] (fun k_ => some k_ ≠ (.slice (some ad343) t337.length co19 : Value).ownBlock ∧ some k_ ≠ (.slice (some ad344) t340.length co20 : Value).ownBlock) (fun _ => False) rfl rfl ?aP (fun _ hk => hk.elim) ?aF ?aO ?aB ?aS ?aL ?_; (case aP => exact rfl); (case aB => exact (bq0_ HB.out)); (case aF => exact (fun k_ hk => ⟨Kd.fresh' (Kd.R_lt (mvR_ HO_8.out)) k_ hk, Kd.fresh' (Kd.R_lt (mvR_ HO_9.out)) k_ hk⟩)); (case aO => exact (mvR_ HO_10.out)); (case aS => exact (below_size (bq0_ HB.out))); (case aL => have := LMc18.out; omega); intro v348 w21 ho hb hg hat; rw [← Ny347.out] at ho; have HO349 := Aside0.mk (ho); replace HO_8 := Aside0.mk (Kd.R_after (ok := (fun k_ => some k_ ≠ (.slice (some ad344) t340.length co20 : Value).ownBlock)) (mvR_ HO_8.out) hg hat); replace HO_9 := Aside0.mk (Kd.R_after (ok := (fun k_ => some k_ ≠ (.slice (some ad343) t337.length co19 : Value).ownBlock)) (mvR_ HO_9.out) hg hat); replace HB := Aside0.mk (hb); clear HO_10 ho hb hg hat)); try go_wp2_with (first | ((with_reducible refine gate_builtin (b := .append) (xs := #[.tmp 75, .tmp 77]) rfl ?_); at_builtin; refine Kd.R_append (Kd.int .i64) (w0 := w) w.heap.size rfl (.tmp 75) (.tmp 77) 23 3 (.int .i64 0) 8 rfl Try.underlying23 info3 rfl (by decide) (by omega) u10 x10_2 ji15 [.int .i64 ji15] (fun k_ => some k_ ≠ (.slice (some ad343) t337.length co19 : Value).ownBlock ∧ some k_ ≠ (.slice (some ad344) t340.length co20 : Value).ownBlock) (fun _ => False) rfl rfl ?aP (fun _ hk => hk.elim) ?aF ?aO ?aB ?aS ?aL ?_; (case aP => exact rfl); (case aB => exact (bq0_ HB.out)); (case aF => exact (fun k_ hk => ⟨Kd.fresh' (Kd.R_lt (mvR_ HO_8.out)) k_ hk, Kd.fresh' (Kd.R_lt (mvR_ HO_9.out)) k_ hk⟩)); (case aO => exact (mvR_ HO_10.out)); (case aS => exact (below_size (bq0_ HB.out))); (case aL => have := LMc18.out; omega); intro v348 w21 ho hb hg hat; rw [← Ny347.out] at ho; have HO349 := Aside0.mk (ho); replace HO_8 := Aside0.mk (Kd.R_after (ok := (fun k_ => some k_ ≠ (.slice (some ad344) t340.length co20 : Value).ownBlock)) (mvR_ HO_8.out) hg hat); replace HO_9 := Aside0.mk (Kd.R_after (ok := (fun k_ => some k_ ≠ (.slice (some ad343) t337.length co19 : Value).ownBlock)) (mvR_ HO_9.out) hg hat); replace HB := Aside0.mk (hb); clear HO_10 ho hb hg hat)))
            go_roundg k2
            case measure => have := HJ4.out; have := HK2.out; omega
            case rel => exact ⟨(y347), (wrap64 (x11_2 + 1)), (by first | rfl | (simp; done) | (simp [*]; done)), H', ⟨by have := HJ4.out; have := HK2.out; omega⟩, ⟨mvR_ HO_8.out⟩, ⟨mvR_ HO_9.out⟩, ⟨mvR_ HO349.out⟩, ⟨bq0_ HB.out⟩⟩
           ·rw [if_neg c18] at H
            exact absurd H (by simp)
          ·rw [if_neg c17] at H
           have c17b0 : ((rd t340 x11_2) == 1) = false := beq_eq_false_iff_ne.mpr c17
           have c17b1 : ((rd t340 x11_2) != 1) = true := bne_iff_ne.mpr c17
           by_cases c22 : (rd t340 x11_2) = (ji15)
           ·rw [if_pos c22] at H
            obtain ⟨c22b0, c22b1⟩ := eqT_ c22
            clear c22
            by_cases c23 : x10_2.length < 17592186044416
            ·rw [if_pos c23] at H
             have LMc23 := Aside0.mk c23
             clear c23
             obtain ⟨y351, hy351⟩ : ∃ y_ : List Int, y_ = (x10_2 ++ [ji15]) := ⟨_, rfl⟩
             replace H : (fullerref02_Join.l0 k2 t337 t340 y351 (wrap64 (x11_2 + 1))) = some (r1, r2) := by first | (rw [hy351]; with_reducible exact H) | (have H2_ := (Option.bind_some _ _).symm.trans H; rw [hy351]; with_reducible exact H2_) | (have H2_ := (Option.bind_some _ _).symm.trans H; with_reducible exact H2_) | with_reducible exact H | (rw [hy351]; exact H) | exact H
             have Ny351 := Aside0.mk hy351
             clear hy351
             have H' := Aside0.mk H
             clear H
             obtain ⟨Ao24, co24, eo24⟩ := Kd.R_slice HO_8.out
             subst eo24
             have p343 : 0 ≤ (x11_2 : Int) := od_
             have q343 : x11_2 < (t337.length : Int) := od_
             obtain ⟨ad343, e343, hx343_0⟩ := Kd.at_int (Kd.R_reads' HO_8.out).2.2 x11_2 p343 q343
             cases e343
             replace p343 := eq_true p343
             replace q343 := eq_true q343
             obtain ⟨Ao25, co25, eo25⟩ := Kd.R_slice HO_9.out
             subst eo25
             have p344 : 0 ≤ (x11_2 : Int) := od_
             have q344 : x11_2 < (t340.length : Int) := od_
             obtain ⟨ad344, e344, hx344_0⟩ := Kd.at_int (Kd.R_reads' HO_9.out).2.2 x11_2 p344 q344
             cases e344
             replace p344 := eq_true p344
             replace q344 := eq_true q344
             have p345 : 0 ≤ (x11_2 : Int) := od_
             have q345 : x11_2 < (t337.length : Int) := od_
             obtain ⟨ad345, e345, hx345_0⟩ := Kd.at_int (Kd.R_reads' HO_8.out).2.2 x11_2 p345 q345
             obtain rfl : ad343 = ad345 := (by injection e345)
             replace p345 := eq_true p345
             replace q345 := eq_true q345
             have p346 : 0 ≤ (x11_2 : Int) := od_
             have q346 : x11_2 < (t340.length : Int) := od_
             obtain ⟨ad346, e346, hx346_0⟩ := Kd.at_int (Kd.R_reads' HO_9.out).2.2 x11_2 p346 q346
             obtain rfl : ad344 = ad346 := (by injection e346)
             replace p346 := eq_true p346
             replace q346 := eq_true q346
             have p350 : 0 ≤ (x11_2 : Int) := od_
             have q350 : x11_2 < (t340.length : Int) := od_
             obtain ⟨ad350, e350, hx350_0⟩ := Kd.at_int (Kd.R_reads' HO_9.out).2.2 x11_2 p350 q350
             obtain rfl : ad344 = ad350 := (by injection e350)
             replace p350 := eq_true p350
             replace q350 := eq_true q350
             go_wp2_with (first | ((with_reducible refine gate_builtin (b := .append) (xs := #[.tmp 75, .tmp 77]) rfl ?_); at_builtin; refine Kd.R_append (Kd.int .i64) (w0 := w) w.heap.size rfl (.tmp 75) (.tmp 77) 23 3 (.int .i64 0) 8 rfl Try.underlying23 info3 rfl (by decide) (by omega) u10 x10_2 ji15 [.int .i64 ji15] (fun k_ => some k_ ≠ (.slice (some ad343) t337.length co24 : Value).ownBlock ∧ some k_ ≠ (.slice (some ad344) t340.length co25 : Value).ownBlock) (fun _ => False) rfl rfl ?aP (fun _ hk => hk.elim) ?aF ?aO ?aB ?aS ?aL ?_; (case aP => exact rfl); (case aB => exact (bq0_ HB.out)); (case aF => exact (fun k_ hk => ⟨Kd.fresh' (Kd.R_lt (mvR_ HO_8.out)) k_ hk, Kd.fresh' (Kd.R_lt (mvR_ HO_9.out)) k_ hk⟩)); (case aO => exact (mvR_ HO_10.out)); (case aS => exact (below_size (bq0_ HB.out))); (case aL => have := LMc23.out; omega); intro v352 w26 ho hb hg hat; rw [← Ny351.out] at ho; have HO353 := Aside0.mk (ho); replace HO_8 := Aside0.mk (Kd.R_after (ok := (fun k_ => some k_ ≠ (.slice (some ad344) t340.length co25 : Value).ownBlock)) (mvR_ HO_8.out) hg hat); replace HO_9 := Aside0.mk (Kd.R_after (ok := (fun k_ => some k_ ≠ (.slice (some ad343) t337.length co24 : Value).ownBlock)) (mvR_ HO_9.out) hg hat); replace HB := Aside0.mk (hb); clear HO_10 ho hb hg hat))
             repeat (go_quiet (first | ((with_reducible refine gate_builtin (b := .append) (xs := #[.tmp 75, .tmp 77]) rfl ?_); at_builtin; refine Kd.R_append (Kd.int .i64) (w0 := w) w.heap.size rfl (.tmp 75) (.tmp 77) 23 3 (.int .i64 0) 8 rfl Try.underlying23 info3 rfl (by decide) (by omega) u10 x10_2 ji15 [.int .i64 ji15] (fun k_ => some k_ ≠ (.slice (some ad343) t337.length co24 : Value).ownBlock ∧ some k_ ≠ (.slice (some ad344) t340.length co25 : Value).ownBlock) (fun _ => False) rfl rfl ?aP (fun _ hk => hk.elim) ?aF ?aO ?aB ?aS ?aL ?_; (case aP => exact rfl); (case aB => exact (bq0_ HB.out)); (case aF => exact (fun k_ hk => ⟨Kd.fresh' (Kd.R_lt (mvR_ HO_8.out)) k_ hk, Kd.fresh' (Kd.R_lt (mvR_ HO_9.out)) k_ hk⟩)); (case aO => exact (mvR_ HO_10.out)); (case aS => exact (below_size (bq0_ HB.out))); (case aL => have := LMc23.out; omega); intro v352 w26 ho hb hg hat; rw [← Ny351.out] at ho; have HO353 := Aside0.mk (ho); replace HO_8 := Aside0.mk (Kd.R_after (ok := (fun k_ => some k_ ≠ (.slice (some ad344) t340.length co25 : Value).ownBlock)) (mvR_ HO_8.out) hg hat); replace HO_9 := Aside0.mk (Kd.R_after (ok := (fun k_ => some k_ ≠ (.slice (some ad343) t337.length co24 : Value).ownBlock)) (mvR_ HO_9.out) hg hat); replace HB := Aside0.mk (hb); clear HO_10 ho hb hg hat)); try go_wp2_with (first | ((with_reducible refine gate_builtin (b := .append) (xs := #[.tmp 75, .tmp 77]) rfl ?_); at_builtin; refine Kd.R_append (Kd.int .i64) (w0 := w) w.heap.size rfl (.tmp 75) (.tmp 77) 23 3 (.int .i64 0) 8 rfl Try.underlying23 info3 rfl (by decide) (by omega) u10 x10_2 ji15 [.int .i64 ji15] (fun k_ => some k_ ≠ (.slice (some ad343) t337.length co24 : Value).ownBlock ∧ some k_ ≠ (.slice (some ad344) t340.length co25 : Value).ownBlock) (fun _ => False) rfl rfl ?aP (fun _ hk => hk.elim) ?aF ?aO ?aB ?aS ?aL ?_; (case aP => exact rfl); (case aB => exact (bq0_ HB.out)); (case aF => exact (fun k_ hk => ⟨Kd.fresh' (Kd.R_lt (mvR_ HO_8.out)) k_ hk, Kd.fresh' (Kd.R_lt (mvR_ HO_9.out)) k_ hk⟩)); (case aO => exact (mvR_ HO_10.out)); (case aS => exact (below_size (bq0_ HB.out))); (case aL => have := LMc23.out; omega); intro v352 w26 ho hb hg hat; rw [← Ny351.out] at ho; have HO353 := Aside0.mk (ho); replace HO_8 := Aside0.mk (Kd.R_after (ok := (fun k_ => some k_ ≠ (.slice (some ad344) t340.length co25 : Value).ownBlock)) (mvR_ HO_8.out) hg hat); replace HO_9 := Aside0.mk (Kd.R_after (ok := (fun k_ => some k_ ≠ (.slice (some ad343) t337.length co24 : Value).ownBlock)) (mvR_ HO_9.out) hg hat); replace HB := Aside0.mk (hb); clear HO_10 ho hb hg hat)))
             go_roundg k2
             case measure => have := HJ4.out; have := HK2.out; omega
             case rel => exact ⟨(y351), (wrap64 (x11_2 + 1)), (by first | rfl | (simp; done) | (simp [*]; done)), H', ⟨by have := HJ4.out; have := HK2.out; omega⟩, ⟨mvR_ HO_8.out⟩, ⟨mvR_ HO_9.out⟩, ⟨mvR_ HO353.out⟩, ⟨bq0_ HB.out⟩⟩
            ·rw [if_neg c23] at H
             exact absurd H (by simp)
           ·rw [if_neg c22] at H
            have c22b0 : ((rd t340 x11_2) == (ji15)) = false := beq_eq_false_iff_ne.mpr c22
            have c22b1 : ((rd t340 x11_2) != (ji15)) = true := bne_iff_ne.mpr c22
            simp only [Option.some.injEq, Prod.mk.injEq] at H
            obtain ⟨rfl, rfl⟩ := H
            obtain ⟨Ao27, co27, eo27⟩ := Kd.R_slice HO_8.out
            subst eo27
            have p343 : 0 ≤ (x11_2 : Int) := od_
            have q343 : x11_2 < (t337.length : Int) := od_
            obtain ⟨ad343, e343, hx343_0⟩ := Kd.at_int (Kd.R_reads' HO_8.out).2.2 x11_2 p343 q343
            cases e343
            replace p343 := eq_true p343
            replace q343 := eq_true q343
            obtain ⟨Ao28, co28, eo28⟩ := Kd.R_slice HO_9.out
            subst eo28
            have p344 : 0 ≤ (x11_2 : Int) := od_
            have q344 : x11_2 < (t340.length : Int) := od_
            obtain ⟨ad344, e344, hx344_0⟩ := Kd.at_int (Kd.R_reads' HO_9.out).2.2 x11_2 p344 q344
            cases e344
            replace p344 := eq_true p344
            replace q344 := eq_true q344
            have p345 : 0 ≤ (x11_2 : Int) := od_
            have q345 : x11_2 < (t337.length : Int) := od_
            obtain ⟨ad345, e345, hx345_0⟩ := Kd.at_int (Kd.R_reads' HO_8.out).2.2 x11_2 p345 q345
            obtain rfl : ad343 = ad345 := (by injection e345)
            replace p345 := eq_true p345
            replace q345 := eq_true q345
            have p346 : 0 ≤ (x11_2 : Int) := od_
            have q346 : x11_2 < (t340.length : Int) := od_
            obtain ⟨ad346, e346, hx346_0⟩ := Kd.at_int (Kd.R_reads' HO_9.out).2.2 x11_2 p346 q346
            obtain rfl : ad344 = ad346 := (by injection e346)
            replace p346 := eq_true p346
            replace q346 := eq_true q346
            have p350 : 0 ≤ (x11_2 : Int) := od_
            have q350 : x11_2 < (t340.length : Int) := od_
            obtain ⟨ad350, e350, hx350_0⟩ := Kd.at_int (Kd.R_reads' HO_9.out).2.2 x11_2 p350 q350
            obtain rfl : ad344 = ad350 := (by injection e350)
            replace p350 := eq_true p350
            replace q350 := eq_true q350
            go_wp2
            repeat (go_quiet (fail); try go_wp2)
            go_ret2
            exact ⟨_, by first | rfl | (simp [errW_none, errW_some] <;> rfl) | (simp only [← hji15]; first | rfl | (simp [errW_none, errW_some] <;> rfl)) | (simp [*, errW_none, errW_some] <;> rfl), by first | exact Kd.R_nil _ _ _ _ _ | exact Kd.N_nil _ _ _ _ _ | exact Kd.V_nil _ _ _ _ _ | exact Kd.Q_nil _ _ _ _ _ | exact Kd.S_nil _ _ _ _ _, bq0_ HB.out⟩
         ·rw [if_neg c16] at H
          have c16b0 : ((rd t337 x11_2) == 1) = false := beq_eq_false_iff_ne.mpr c16
          have c16b1 : ((rd t337 x11_2) != 1) = true := bne_iff_ne.mpr c16
          by_cases c29 : (rd t337 x11_2) = (ji15)
          ·rw [if_pos c29] at H
           obtain ⟨c29b0, c29b1⟩ := eqT_ c29
           clear c29
           by_cases c30 : (rd t340 x11_2) = 1
           ·rw [if_pos c30] at H
            obtain ⟨c30b0, c30b1⟩ := eqT_ c30
            clear c30
            by_cases c31 : x10_2.length < 17592186044416
            ·rw [if_pos c31] at H
             have LMc31 := Aside0.mk c31
             clear c31
             obtain ⟨y356, hy356⟩ : ∃ y_ : List Int, y_ = (x10_2 ++ [ji15]) := ⟨_, rfl⟩
             replace H : (fullerref02_Join.l0 k2 t337 t340 y356 (wrap64 (x11_2 + 1))) = some (r1, r2) := by first | (rw [hy356]; with_reducible exact H) | (have H2_ := (Option.bind_some _ _).symm.trans H; rw [hy356]; with_reducible exact H2_) | (have H2_ := (Option.bind_some _ _).symm.trans H; with_reducible exact H2_) | with_reducible exact H | (rw [hy356]; exact H) | exact H
             have Ny356 := Aside0.mk hy356
             clear hy356
             have H' := Aside0.mk H
             clear H
             obtain ⟨Ao32, co32, eo32⟩ := Kd.R_slice HO_8.out
             subst eo32
             have p343 : 0 ≤ (x11_2 : Int) := od_
             have q343 : x11_2 < (t337.length : Int) := od_
             obtain ⟨ad343, e343, hx343_0⟩ := Kd.at_int (Kd.R_reads' HO_8.out).2.2 x11_2 p343 q343
             cases e343
             replace p343 := eq_true p343
             replace q343 := eq_true q343
             obtain ⟨Ao33, co33, eo33⟩ := Kd.R_slice HO_9.out
             subst eo33
             have p344 : 0 ≤ (x11_2 : Int) := od_
             have q344 : x11_2 < (t340.length : Int) := od_
             obtain ⟨ad344, e344, hx344_0⟩ := Kd.at_int (Kd.R_reads' HO_9.out).2.2 x11_2 p344 q344
             cases e344
             replace p344 := eq_true p344
             replace q344 := eq_true q344
             have p345 : 0 ≤ (x11_2 : Int) := od_
             have q345 : x11_2 < (t337.length : Int) := od_
             obtain ⟨ad345, e345, hx345_0⟩ := Kd.at_int (Kd.R_reads' HO_8.out).2.2 x11_2 p345 q345
             obtain rfl : ad343 = ad345 := (by injection e345)
             replace p345 := eq_true p345
             replace q345 := eq_true q345
             have p354 : 0 ≤ (x11_2 : Int) := od_
             have q354 : x11_2 < (t337.length : Int) := od_
             obtain ⟨ad354, e354, hx354_0⟩ := Kd.at_int (Kd.R_reads' HO_8.out).2.2 x11_2 p354 q354
             obtain rfl : ad343 = ad354 := (by injection e354)
             replace p354 := eq_true p354
             replace q354 := eq_true q354
             have p355 : 0 ≤ (x11_2 : Int) := od_
             have q355 : x11_2 < (t340.length : Int) := od_
             obtain ⟨ad355, e355, hx355_0⟩ := Kd.at_int (Kd.R_reads' HO_9.out).2.2 x11_2 p355 q355
             obtain rfl : ad344 = ad355 := (by injection e355)
             replace p355 := eq_true p355
             replace q355 := eq_true q355
             go_wp2_with (first | ((with_reducible refine gate_builtin (b := .append) (xs := #[.tmp 75, .tmp 77]) rfl ?_); at_builtin; refine Kd.R_append (Kd.int .i64) (w0 := w) w.heap.size rfl (.tmp 75) (.tmp 77) 23 3 (.int .i64 0) 8 rfl Try.underlying23 info3 rfl (by decide) (by omega) u10 x10_2 ji15 [.int .i64 ji15] (fun k_ => some k_ ≠ (.slice (some ad343) t337.length co32 : Value).ownBlock ∧ some k_ ≠ (.slice (some ad344) t340.length co33 : Value).ownBlock) (fun _ => False) rfl rfl ?aP (fun _ hk => hk.elim) ?aF ?aO ?aB ?aS ?aL ?_; (case aP => exact rfl); (case aB => exact (bq0_ HB.out)); (case aF => exact (fun k_ hk => ⟨Kd.fresh' (Kd.R_lt (mvR_ HO_8.out)) k_ hk, Kd.fresh' (Kd.R_lt (mvR_ HO_9.out)) k_ hk⟩)); (case aO => exact (mvR_ HO_10.out)); (case aS => exact (below_size (bq0_ HB.out))); (case aL => have := LMc31.out; omega); intro v357 w34 ho hb hg hat; rw [← Ny356.out] at ho; have HO358 := Aside0.mk (ho); replace HO_8 := Aside0.mk (Kd.R_after (ok := (fun k_ => some k_ ≠ (.slice (some ad344) t340.length co33 : Value).ownBlock)) (mvR_ HO_8.out) hg hat); replace HO_9 := Aside0.mk (Kd.R_after (ok := (fun k_ => some k_ ≠ (.slice (some ad343) t337.length co32 : Value).ownBlock)) (mvR_ HO_9.out) hg hat); replace HB := Aside0.mk (hb); clear HO_10 ho hb hg hat))
             repeat (go_quiet (first | ((with_reducible refine gate_builtin (b := .append) (xs := #[.tmp 75, .tmp 77]) rfl ?_); at_builtin; refine Kd.R_append (Kd.int .i64) (w0 := w) w.heap.size rfl (.tmp 75) (.tmp 77) 23 3 (.int .i64 0) 8 rfl Try.underlying23 info3 rfl (by decide) (by omega) u10 x10_2 ji15 [.int .i64 ji15] (fun k_ => some k_ ≠ (.slice (some ad343) t337.length co32 : Value).ownBlock ∧ some k_ ≠ (.slice (some ad344) t340.length co33 : Value).ownBlock) (fun _ => False) rfl rfl ?aP (fun _ hk => hk.elim) ?aF ?aO ?aB ?aS ?aL ?_; (case aP => exact rfl); (case aB => exact (bq0_ HB.out)); (case aF => exact (fun k_ hk => ⟨Kd.fresh' (Kd.R_lt (mvR_ HO_8.out)) k_ hk, Kd.fresh' (Kd.R_lt (mvR_ HO_9.out)) k_ hk⟩)); (case aO => exact (mvR_ HO_10.out)); (case aS => exact (below_size (bq0_ HB.out))); (case aL => have := LMc31.out; omega); intro v357 w34 ho hb hg hat; rw [← Ny356.out] at ho; have HO358 := Aside0.mk (ho); replace HO_8 := Aside0.mk (Kd.R_after (ok := (fun k_ => some k_ ≠ (.slice (some ad344) t340.length co33 : Value).ownBlock)) (mvR_ HO_8.out) hg hat); replace HO_9 := Aside0.mk (Kd.R_after (ok := (fun k_ => some k_ ≠ (.slice (some ad343) t337.length co32 : Value).ownBlock)) (mvR_ HO_9.out) hg hat); replace HB := Aside0.mk (hb); clear HO_10 ho hb hg hat)); try go_wp2_with (first | ((with_reducible refine gate_builtin (b := .append) (xs := #[.tmp 75, .tmp 77]) rfl ?_); at_builtin; refine Kd.R_append (Kd.int .i64) (w0 := w) w.heap.size rfl (.tmp 75) (.tmp 77) 23 3 (.int .i64 0) 8 rfl Try.underlying23 info3 rfl (by decide) (by omega) u10 x10_2 ji15 [.int .i64 ji15] (fun k_ => some k_ ≠ (.slice (some ad343) t337.length co32 : Value).ownBlock ∧ some k_ ≠ (.slice (some ad344) t340.length co33 : Value).ownBlock) (fun _ => False) rfl rfl ?aP (fun _ hk => hk.elim) ?aF ?aO ?aB ?aS ?aL ?_; (case aP => exact rfl); (case aB => exact (bq0_ HB.out)); (case aF => exact (fun k_ hk => ⟨Kd.fresh' (Kd.R_lt (mvR_ HO_8.out)) k_ hk, Kd.fresh' (Kd.R_lt (mvR_ HO_9.out)) k_ hk⟩)); (case aO => exact (mvR_ HO_10.out)); (case aS => exact (below_size (bq0_ HB.out))); (case aL => have := LMc31.out; omega); intro v357 w34 ho hb hg hat; rw [← Ny356.out] at ho; have HO358 := Aside0.mk (ho); replace HO_8 := Aside0.mk (Kd.R_after (ok := (fun k_ => some k_ ≠ (.slice (some ad344) t340.length co33 : Value).ownBlock)) (mvR_ HO_8.out) hg hat); replace HO_9 := Aside0.mk (Kd.R_after (ok := (fun k_ => some k_ ≠ (.slice (some ad343) t337.length co32 : Value).ownBlock)) (mvR_ HO_9.out) hg hat); replace HB := Aside0.mk (hb); clear HO_10 ho hb hg hat)))
             go_roundg k2
             case measure => have := HJ4.out; have := HK2.out; omega
             case rel => exact ⟨(y356), (wrap64 (x11_2 + 1)), (by first | rfl | (simp; done) | (simp [*]; done)), H', ⟨by have := HJ4.out; have := HK2.out; omega⟩, ⟨mvR_ HO_8.out⟩, ⟨mvR_ HO_9.out⟩, ⟨mvR_ HO358.out⟩, ⟨bq0_ HB.out⟩⟩
            ·rw [if_neg c31] at H
             exact absurd H (by simp)
           ·rw [if_neg c30] at H
            have c30b0 : ((rd t340 x11_2) == 1) = false := beq_eq_false_iff_ne.mpr c30
            have c30b1 : ((rd t340 x11_2) != 1) = true := bne_iff_ne.mpr c30
            by_cases c35 : (rd t340 x11_2) = (ji15)
            ·rw [if_pos c35] at H
             obtain ⟨c35b0, c35b1⟩ := eqT_ c35
             clear c35
             by_cases c36 : x10_2.length < 17592186044416
             ·rw [if_pos c36] at H
              have LMc36 := Aside0.mk c36
              clear c36
              obtain ⟨y360, hy360⟩ : ∃ y_ : List Int, y_ = (x10_2 ++ [ji15]) := ⟨_, rfl⟩
              replace H : (fullerref02_Join.l0 k2 t337 t340 y360 (wrap64 (x11_2 + 1))) = some (r1, r2) := by first | (rw [hy360]; with_reducible exact H) | (have H2_ := (Option.bind_some _ _).symm.trans H; rw [hy360]; with_reducible exact H2_) | (have H2_ := (Option.bind_some _ _).symm.trans H; with_reducible exact H2_) | with_reducible exact H | (rw [hy360]; exact H) | exact H
              have Ny360 := Aside0.mk hy360
              clear hy360
              have H' := Aside0.mk H
              clear H
              obtain ⟨Ao37, co37, eo37⟩ := Kd.R_slice HO_8.out
              subst eo37
              have p343 : 0 ≤ (x11_2 : Int) := od_
              have q343 : x11_2 < (t337.length : Int) := od_
              obtain ⟨ad343, e343, hx343_0⟩ := Kd.at_int (Kd.R_reads' HO_8.out).2.2 x11_2 p343 q343
              cases e343
              replace p343 := eq_true p343
              replace q343 := eq_true q343
              obtain ⟨Ao38, co38, eo38⟩ := Kd.R_slice HO_9.out
              subst eo38
              have p344 : 0 ≤ (x11_2 : Int) := od_
              have q344 : x11_2 < (t340.length : Int) := od_
              obtain ⟨ad344, e344, hx344_0⟩ := Kd.at_int (Kd.R_reads' HO_9.out).2.2 x11_2 p344 q344
              cases e344
              replace p344 := eq_true p344
              replace q344 := eq_true q344
              have p345 : 0 ≤ (x11_2 : Int) := od_
              have q345 : x11_2 < (t337.length : Int) := od_
              obtain ⟨ad345, e345, hx345_0⟩ := Kd.at_int (Kd.R_reads' HO_8.out).2.2 x11_2 p345 q345
              obtain rfl : ad343 = ad345 := (by injection e345)
              replace p345 := eq_true p345
              replace q345 := eq_true q345
              have p354 : 0 ≤ (x11_2 : Int) := od_
              have q354 : x11_2 < (t337.length : Int) := od_
              obtain ⟨ad354, e354, hx354_0⟩ := Kd.at_int (Kd.R_reads' HO_8.out).2.2 x11_2 p354 q354
              obtain rfl : ad343 = ad354 := (by injection e354)
              replace p354 := eq_true p354
              replace q354 := eq_true q354
              have p355 : 0 ≤ (x11_2 : Int) := od_
              have q355 : x11_2 < (t340.length : Int) := od_
              obtain ⟨ad355, e355, hx355_0⟩ := Kd.at_int (Kd.R_reads' HO_9.out).2.2 x11_2 p355 q355
              obtain rfl : ad344 = ad355 := (by injection e355)
              replace p355 := eq_true p355
              replace q355 := eq_true q355
              have p359 : 0 ≤ (x11_2 : Int) := od_
              have q359 : x11_2 < (t340.length : Int) := od_
              obtain ⟨ad359, e359, hx359_0⟩ := Kd.at_int (Kd.R_reads' HO_9.out).2.2 x11_2 p359 q359
              obtain rfl : ad344 = ad359 := (by injection e359)
              replace p359 := eq_true p359
              replace q359 := eq_true q359
              go_wp2_with (first | ((with_reducible refine gate_builtin (b := .append) (xs := #[.tmp 75, .tmp 77]) rfl ?_); at_builtin; refine Kd.R_append (Kd.int .i64) (w0 := w) w.heap.size rfl (.tmp 75) (.tmp 77) 23 3 (.int .i64 0) 8 rfl Try.underlying23 info3 rfl (by decide) (by omega) u10 x10_2 ji15 [.int .i64 ji15] (fun k_ => some k_ ≠ (.slice (some ad343) t337.length co37 : Value).ownBlock ∧ some k_ ≠ (.slice (some ad344) t340.length co38 : Value).ownBlock) (fun _ => False) rfl rfl ?aP (fun _ hk => hk.elim) ?aF ?aO ?aB ?aS ?aL ?_; (case aP => exact rfl); (case aB => exact (bq0_ HB.out)); (case aF => exact (fun k_ hk => ⟨Kd.fresh' (Kd.R_lt (mvR_ HO_8.out)) k_ hk, Kd.fresh' (Kd.R_lt (mvR_ HO_9.out)) k_ hk⟩)); (case aO => exact (mvR_ HO_10.out)); (case aS => exact (below_size (bq0_ HB.out))); (case aL => have := LMc36.out; omega); intro v361 w39 ho hb hg hat; rw [← Ny360.out] at ho; have HO362 := Aside0.mk (ho); replace HO_8 := Aside0.mk (Kd.R_after (ok := (fun k_ => some k_ ≠ (.slice (some ad344) t340.length co38 : Value).ownBlock)) (mvR_ HO_8.out) hg hat); replace HO_9 := Aside0.mk (Kd.R_after (ok := (fun k_ => some k_ ≠ (.slice (some ad343) t337.length co37 : Value).ownBlock)) (mvR_ HO_9.out) hg hat); replace HB := Aside0.mk (hb); clear HO_10 ho hb hg hat))
              repeat (go_quiet (first | ((with_reducible refine gate_builtin (b := .append) (xs := #[.tmp 75, .tmp 77]) rfl ?_); at_builtin; refine Kd.R_append (Kd.int .i64) (w0 := w) w.heap.size rfl (.tmp 75) (.tmp 77) 23 3 (.int .i64 0) 8 rfl Try.underlying23 info3 rfl (by decide) (by omega) u10 x10_2 ji15 [.int .i64 ji15] (fun k_ => some k_ ≠ (.slice (some ad343) t337.length co37 : Value).ownBlock ∧ some k_ ≠ (.slice (some ad344) t340.length co38 : Value).ownBlock) (fun _ => False) rfl rfl ?aP (fun _ hk => hk.elim) ?aF ?aO ?aB ?aS ?aL ?_; (case aP => exact rfl); (case aB => exact (bq0_ HB.out)); (case aF => exact (fun k_ hk => ⟨Kd.fresh' (Kd.R_lt (mvR_ HO_8.out)) k_ hk, Kd.fresh' (Kd.R_lt (mvR_ HO_9.out)) k_ hk⟩)); (case aO => exact (mvR_ HO_10.out)); (case aS => exact (below_size (bq0_ HB.out))); (case aL => have := LMc36.out; omega); intro v361 w39 ho hb hg hat; rw [← Ny360.out] at ho; have HO362 := Aside0.mk (ho); replace HO_8 := Aside0.mk (Kd.R_after (ok := (fun k_ => some k_ ≠ (.slice (some ad344) t340.length co38 : Value).ownBlock)) (mvR_ HO_8.out) hg hat); replace HO_9 := Aside0.mk (Kd.R_after (ok := (fun k_ => some k_ ≠ (.slice (some ad343) t337.length co37 : Value).ownBlock)) (mvR_ HO_9.out) hg hat); replace HB := Aside0.mk (hb); clear HO_10 ho hb hg hat)); try go_wp2_with (first | ((with_reducible refine gate_builtin (b := .append) (xs := #[.tmp 75, .tmp 77]) rfl ?_); at_builtin; refine Kd.R_append (Kd.int .i64) (w0 := w) w.heap.size rfl (.tmp 75) (.tmp 77) 23 3 (.int .i64 0) 8 rfl Try.underlying23 info3 rfl (by decide) (by omega) u10 x10_2 ji15 [.int .i64 ji15] (fun k_ => some k_ ≠ (.slice (some ad343) t337.length co37 : Value).ownBlock ∧ some k_ ≠ (.slice (some ad344) t340.length co38 : Value).ownBlock) (fun _ => False) rfl rfl ?aP (fun _ hk => hk.elim) ?aF ?aO ?aB ?aS ?aL ?_; (case aP => exact rfl); (case aB => exact (bq0_ HB.out)); (case aF => exact (fun k_ hk => ⟨Kd.fresh' (Kd.R_lt (mvR_ HO_8.out)) k_ hk, Kd.fresh' (Kd.R_lt (mvR_ HO_9.out)) k_ hk⟩)); (case aO => exact (mvR_ HO_10.out)); (case aS => exact (below_size (bq0_ HB.out))); (case aL => have := LMc36.out; omega); intro v361 w39 ho hb hg hat; rw [← Ny360.out] at ho; have HO362 := Aside0.mk (ho); replace HO_8 := Aside0.mk (Kd.R_after (ok := (fun k_ => some k_ ≠ (.slice (some ad344) t340.length co38 : Value).ownBlock)) (mvR_ HO_8.out) hg hat); replace HO_9 := Aside0.mk (Kd.R_after (ok := (fun k_ => some k_ ≠ (.slice (some ad343) t337.length co37 : Value).ownBlock)) (mvR_ HO_9.out) hg hat); replace HB := Aside0.mk (hb); clear HO_10 ho hb hg hat)))
              go_roundg k2
              case measure => have := HJ4.out; have := HK2.out; omega
              case rel => exact ⟨(y360), (wrap64 (x11_2 + 1)), (by first | rfl | (simp; done) | (simp [*]; done)), H', ⟨by have := HJ4.out; have := HK2.out; omega⟩, ⟨mvR_ HO_8.out⟩, ⟨mvR_ HO_9.out⟩, ⟨mvR_ HO362.out⟩, ⟨bq0_ HB.out⟩⟩
             ·rw [if_neg c36] at H
              exact absurd H (by simp)
            ·rw [if_neg c35] at H
             have c35b0 : ((rd t340 x11_2) == (ji15)) = false := beq_eq_false_iff_ne.mpr c35
             have c35b1 : ((rd t340 x11_2) != (ji15)) = true := bne_iff_ne.mpr c35
             simp only [Option.some.injEq, Prod.mk.injEq] at H
             obtain ⟨rfl, rfl⟩ := H
             obtain ⟨Ao40, co40, eo40⟩ := Kd.R_slice HO_8.out
             subst eo40
             have p343 : 0 ≤ (x11_2 : Int) := od_
             have q343 : x11_2 < (t337.length : Int) := od_
             obtain ⟨ad343, e343, hx343_0⟩ := Kd.at_int (Kd.R_reads' HO_8.out).2.2 x11_2 p343 q343
             cases e343
             replace p343 := eq_true p343
             replace q343 := eq_true q343
             obtain ⟨Ao41, co41, eo41⟩ := Kd.R_slice HO_9.out
             subst eo41
             have p344 : 0 ≤ (x11_2 : Int) := od_
             have q344 : x11_2 < (t340.length : Int) := od_
             obtain ⟨ad344, e344, hx344_0⟩ := Kd.at_int (Kd.R_reads' HO_9.out).2.2 x11_2 p344 q344
             cases e344
             replace p344 := eq_true p344
             replace q344 := eq_true q344
             have p345 : 0 ≤ (x11_2 : Int) := od_
             have q345 : x11_2 < (t337.length : Int) := od_
             obtain ⟨ad345, e345, hx345_0⟩ := Kd.at_int (Kd.R_reads' HO_8.out).2.2 x11_2 p345 q345
             obtain rfl : ad343 = ad345 := (by injection e345)
             replace p345 := eq_true p345
             replace q345 := eq_true q345
             have p354 : 0 ≤ (x11_2 : Int) := od_
             have q354 : x11_2 < (t337.length : Int) := od_
             obtain ⟨ad354, e354, hx354_0⟩ := Kd.at_int (Kd.R_reads' HO_8.out).2.2 x11_2 p354 q354
             obtain rfl : ad343 = ad354 := (by injection e354)
             replace p354 := eq_true p354
             replace q354 := eq_true q354
             have p355 : 0 ≤ (x11_2 : Int) := od_
             have q355 : x11_2 < (t340.length : Int) := od_
             obtain ⟨ad355, e355, hx355_0⟩ := Kd.at_int (Kd.R_reads' HO_9.out).2.2 x11_2 p355 q355
             obtain rfl : ad344 = ad355 := (by injection e355)
             replace p355 := eq_true p355
             replace q355 := eq_true q355
             have p359 : 0 ≤ (x11_2 : Int) := od_
             have q359 : x11_2 < (t340.length : Int) := od_
             obtain ⟨ad359, e359, hx359_0⟩ := Kd.at_int (Kd.R_reads' HO_9.out).2.2 x11_2 p359 q359
             obtain rfl : ad344 = ad359 := (by injection e359)
             replace p359 := eq_true p359
             replace q359 := eq_true q359
             go_wp2
             repeat (go_quiet (fail); try go_wp2)
             go_ret2
             exact ⟨_, by first | rfl | (simp [errW_none, errW_some] <;> rfl) | (simp only [← hji15]; first | rfl | (simp [errW_none, errW_some] <;> rfl)) | (simp [*, errW_none, errW_some] <;> rfl), by first | exact Kd.R_nil _ _ _ _ _ | exact Kd.N_nil _ _ _ _ _ | exact Kd.V_nil _ _ _ _ _ | exact Kd.Q_nil _ _ _ _ _ | exact Kd.S_nil _ _ _ _ _, bq0_ HB.out⟩
          ·rw [if_neg c29] at H
           have c29b0 : ((rd t337 x11_2) == (ji15)) = false := beq_eq_false_iff_ne.mpr c29
           have c29b1 : ((rd t337 x11_2) != (ji15)) = true := bne_iff_ne.mpr c29
           simp only [Option.some.injEq, Prod.mk.injEq] at H
           obtain ⟨rfl, rfl⟩ := H
           obtain ⟨Ao42, co42, eo42⟩ := Kd.R_slice HO_8.out
           subst eo42
           have p343 : 0 ≤ (x11_2 : Int) := od_
           have q343 : x11_2 < (t337.length : Int) := od_
           obtain ⟨ad343, e343, hx343_0⟩ := Kd.at_int (Kd.R_reads' HO_8.out).2.2 x11_2 p343 q343
           cases e343
           replace p343 := eq_true p343
           replace q343 := eq_true q343
           obtain ⟨Ao43, co43, eo43⟩ := Kd.R_slice HO_9.out
           subst eo43
           have p344 : 0 ≤ (x11_2 : Int) := od_
           have q344 : x11_2 < (t340.length : Int) := od_
           obtain ⟨ad344, e344, hx344_0⟩ := Kd.at_int (Kd.R_reads' HO_9.out).2.2 x11_2 p344 q344
           cases e344
           replace p344 := eq_true p344
           replace q344 := eq_true q344
           have p345 : 0 ≤ (x11_2 : Int) := od_
           have q345 : x11_2 < (t337.length : Int) := od_
           obtain ⟨ad345, e345, hx345_0⟩ := Kd.at_int (Kd.R_reads' HO_8.out).2.2 x11_2 p345 q345
           obtain rfl : ad343 = ad345 := (by injection e345)
           replace p345 := eq_true p345
           replace q345 := eq_true q345
           have p354 : 0 ≤ (x11_2 : Int) := od_
           have q354 : x11_2 < (t337.length : Int) := od_
           obtain ⟨ad354, e354, hx354_0⟩ := Kd.at_int (Kd.R_reads' HO_8.out).2.2 x11_2 p354 q354
           obtain rfl : ad343 = ad354 := (by injection e354)
           replace p354 := eq_true p354
           replace q354 := eq_true q354
           go_wp2
           repeat (go_quiet (fail); try go_wp2)
           go_ret2
           exact ⟨_, by first | rfl | (simp [errW_none, errW_some] <;> rfl) | (simp only [← hji15]; first | rfl | (simp [errW_none, errW_some] <;> rfl)) | (simp [*, errW_none, errW_some] <;> rfl), by first | exact Kd.R_nil _ _ _ _ _ | exact Kd.N_nil _ _ _ _ _ | exact Kd.V_nil _ _ _ _ _ | exact Kd.Q_nil _ _ _ _ _ | exact Kd.S_nil _ _ _ _ _, bq0_ HB.out⟩
        ·rw [if_neg c14] at H
         exact absurd H (by simp)
       ·rw [if_neg c13] at H
        exact absurd H (by simp)
      ·rw [if_neg c12] at H
       have c12b0 : decide (x11_2 < (t337.length : Int)) = false := decide_eq_false c12
       clear c12
       replace H := Option.bind_eq_some_iff.mp H
       obtain ⟨t363, A440, H⟩ := H
       replace H : (if t363 = true then (some (x10_2, 0)) else (some (([] : List Int), 20))) = some (r1, r2) := H
       have A44 := Aside0.mk A440
       clear A440
       by_cases c45 : t363 = true
       ·subst c45
        have H1 : (some (x10_2, 0)) = some (r1, r2) := by rw [if_pos rfl] at H; exact H
        clear H
        have H := H1
        clear H1
        simp only [Option.some.injEq, Prod.mk.injEq] at H
        obtain ⟨rfl, rfl⟩ := H
        obtain ⟨Ao46, co46, eo46⟩ := Kd.R_slice HO_8.out
        subst eo46
        obtain ⟨Ao47, co47, eo47⟩ := Kd.R_slice HO_10.out
        subst eo47
        go_wp2_with (first | (go_at_call 26; (with_reducible refine (fullerref02_Check.calls k2 _ _ x10_2 true _ ?side1 ?side2 A44.out).mono ?_); (case side1 => exact mvC_ ((Kd.R_reads' HO_10.out).2.2)); (case side2 => exact (Kd.R_reads' HO_10.out).2.1); rintro e w' ⟨rfl, ⟨nd, rfl⟩⟩; (try first | exact ⟨rfl, _, World.drewN_drewN _ _ _⟩ | exact ⟨rfl, _, Eq.trans (World.drewN_drewN _ _ _) (congrArg (World.drewN _) (Nat.add_assoc _ _ _))⟩)))
        repeat (go_quiet (first | (go_at_call 26; (with_reducible refine (fullerref02_Check.calls k2 _ _ x10_2 true _ ?side1 ?side2 A44.out).mono ?_); (case side1 => exact mvC_ ((Kd.R_reads' HO_10.out).2.2)); (case side2 => exact (Kd.R_reads' HO_10.out).2.1); rintro e w' ⟨rfl, ⟨nd, rfl⟩⟩; (try first | exact ⟨rfl, _, World.drewN_drewN _ _ _⟩ | exact ⟨rfl, _, Eq.trans (World.drewN_drewN _ _ _) (congrArg (World.drewN _) (Nat.add_assoc _ _ _))⟩))); try go_wp2_with (first | (go_at_call 26; (with_reducible refine (fullerref02_Check.calls k2 _ _ x10_2 true _ ?side1 ?side2 A44.out).mono ?_); (case side1 => exact mvC_ ((Kd.R_reads' HO_10.out).2.2)); (case side2 => exact (Kd.R_reads' HO_10.out).2.1); rintro e w' ⟨rfl, ⟨nd, rfl⟩⟩; (try first | exact ⟨rfl, _, World.drewN_drewN _ _ _⟩ | exact ⟨rfl, _, Eq.trans (World.drewN_drewN _ _ _) (congrArg (World.drewN _) (Nat.add_assoc _ _ _))⟩))))
        go_ret2
        exact ⟨_, by first | rfl | (simp <;> rfl) | (simp [*] <;> rfl), by (with_reducible repeat (first | apply Kd.R_alloc | apply Kd.R_drewN | apply Kd.R_drew)); exact Kd.R_mono HO_10.out (fun _ hk => trivial), bq0_ HB.out⟩
       ·replace c45 := Bool.eq_false_iff.mpr c45
        subst c45
        have H1 : (some (([] : List Int), 20)) = some (r1, r2) := by rw [if_neg (show ¬ (false = true) by decide)] at H; exact H
        clear H
        have H := H1
        clear H1
        simp only [Option.some.injEq, Prod.mk.injEq] at H
        obtain ⟨rfl, rfl⟩ := H
        obtain ⟨Ao48, co48, eo48⟩ := Kd.R_slice HO_8.out
        subst eo48
        obtain ⟨Ao49, co49, eo49⟩ := Kd.R_slice HO_10.out
        subst eo49
        go_wp2_with (first | (go_at_call 26; (with_reducible refine (fullerref02_Check.calls k2 _ _ x10_2 false _ ?side1 ?side2 A44.out).mono ?_); (case side1 => exact mvC_ ((Kd.R_reads' HO_10.out).2.2)); (case side2 => exact (Kd.R_reads' HO_10.out).2.1); rintro e w' ⟨rfl, ⟨nd, rfl⟩⟩; (try first | exact ⟨rfl, _, World.drewN_drewN _ _ _⟩ | exact ⟨rfl, _, Eq.trans (World.drewN_drewN _ _ _) (congrArg (World.drewN _) (Nat.add_assoc _ _ _))⟩)))
        repeat (go_quiet (first | (go_at_call 26; (with_reducible refine (fullerref02_Check.calls k2 _ _ x10_2 false _ ?side1 ?side2 A44.out).mono ?_); (case side1 => exact mvC_ ((Kd.R_reads' HO_10.out).2.2)); (case side2 => exact (Kd.R_reads' HO_10.out).2.1); rintro e w' ⟨rfl, ⟨nd, rfl⟩⟩; (try first | exact ⟨rfl, _, World.drewN_drewN _ _ _⟩ | exact ⟨rfl, _, Eq.trans (World.drewN_drewN _ _ _) (congrArg (World.drewN _) (Nat.add_assoc _ _ _))⟩))); try go_wp2_with (first | (go_at_call 26; (with_reducible refine (fullerref02_Check.calls k2 _ _ x10_2 false _ ?side1 ?side2 A44.out).mono ?_); (case side1 => exact mvC_ ((Kd.R_reads' HO_10.out).2.2)); (case side2 => exact (Kd.R_reads' HO_10.out).2.1); rintro e w' ⟨rfl, ⟨nd, rfl⟩⟩; (try first | exact ⟨rfl, _, World.drewN_drewN _ _ _⟩ | exact ⟨rfl, _, Eq.trans (World.drewN_drewN _ _ _) (congrArg (World.drewN _) (Nat.add_assoc _ _ _))⟩))))
        go_ret2
        exact ⟨_, by first | rfl | (simp <;> rfl) | (simp [*] <;> rfl), by first | exact Kd.R_nil _ _ _ _ _ | exact Kd.N_nil _ _ _ _ _ | exact Kd.V_nil _ _ _ _ _ | exact Kd.Q_nil _ _ _ _ _ | exact Kd.S_nil _ _ _ _ _, bq0_ HB.out⟩
def fullerref11_told.f (k : Nat) (l0 : List Int) (a1 : Bool) : Option (List Int × Int) := (fullerref02_Check.f k l0).bind fun t364 => (if a1 = true then (if t364 = true then (some (l0, 0)) else (some (([] : List Int), 20))) else (some (([] : List Int), 20)))
set_option maxHeartbeats 8000000 in
set_option maxRecDepth 100000 in
theorem fullerref11_told.calls (k : Nat) (P0_ : Nat → Prop) (A0 : Option Addr) (c0 : Nat) (l0 : List Int) (a1 : Bool) (r1 : List Int) (r2 : Int) (w : World) (hs0 : Kd.V (Kd.int .i64) 3 w w.heap.size (fun k_ => P0_ k_) (.slice A0 l0.length c0) l0) (h : fullerref11_told.f k l0 a1 = some (r1, r2)) :
    Calls Try.prog 28 #[.slice A0 l0.length c0, .bool a1] w fun e w' => ∃ v0_ : Value, e = .returned (.tuple #[v0_, .int .i64 r2]) ∧ Kd.V (Kd.int .i64) 3 w' w.heap.size (fun k_ => (P0_ k_ ∨ w.heap.size ≤ k_)) v0_ r1 ∧ Below w.heap.size w w' := by
  have HO0 := Aside0.mk (show Kd.V (Kd.int .i64) 3 w w.heap.size (fun k_ => (P0_ k_ ∨ w.heap.size ≤ k_)) (.slice A0 l0.length c0) l0 from Kd.V_mono hs0 (fun k_ hk => .inl hk))
  have HB := Aside0.mk (Below.refl w.heap.size w)
  have H : ((fullerref02_Check.f k l0).bind fun t364 => (if a1 = true then (if t364 = true then (some (l0, 0)) else (some (([] : List Int), 20))) else (some (([] : List Int), 20)))) = some (r1, r2) := h
  clear h
  replace H := Option.bind_eq_some_iff.mp H
  obtain ⟨t364, A30, H⟩ := H
  replace H : (if a1 = true then (if t364 = true then (some (l0, 0)) else (some (([] : List Int), 20))) else (some (([] : List Int), 20))) = some (r1, r2) := H
  have A3 := Aside0.mk A30
  clear A30
  by_cases c4 : a1 = true
  · subst c4
    have H1 : (if t364 = true then (some (l0, 0)) else (some (([] : List Int), 20))) = some (r1, r2) := by rw [if_pos rfl] at H; exact H
    clear H
    have H := H1
    clear H1
    by_cases c5 : t364 = true
    · subst c5
      have H1 : (some (l0, 0)) = some (r1, r2) := by rw [if_pos rfl] at H; exact H
      clear H
      have H := H1
      clear H1
      simp only [Option.some.injEq, Prod.mk.injEq] at H
      obtain ⟨rfl, rfl⟩ := H
      go_enter Try.func28, Try.ntmps28
      go_wp2_with (first | ((with_reducible refine gate_callee (f := 26) rfl ?_); refine goesL_ (some 8) rfl rfl Try.func26 (by kernel_rfl) rfl #[.slice A0 l0.length c0] rfl (by (try simp only [List.map_toArray, List.map_cons, List.map_nil]); first | done | rfl | (simp only [List.length_drop, List.length_take]; rfl)) ?_; (with_reducible refine (fullerref02_Check.calls k _ _ l0 true _ ?side1 ?side2 A3.out).mono ?_); (case side1 => repeat (first | exact (Kd.V_reads' HO0.out).2.2 | (with_reducible refine Kd.C_alloc ?_ _) | (with_reducible refine Kd.C_drewN ?_ _) | (with_reducible refine Kd.C_drew ?_))); (case side2 => exact (Kd.V_reads' HO0.out).2.1); rintro e w' ⟨rfl, ⟨nd, rfl⟩⟩; refine ⟨_, rfl, ?_⟩))
      go_ret2
      exact ⟨_, by first | rfl | (simp [errW_none, errW_some] <;> rfl) | (simp [*, errW_none, errW_some] <;> rfl), by (with_reducible repeat (first | apply Kd.V_alloc | apply Kd.V_drewN | apply Kd.V_drew)); exact HO0.out, by repeat (first | (with_reducible first | exact HB.out | apply below_alloc | apply pw_below_drewN | apply below_drew1) | exact HB.out)⟩
    · replace c5 := Bool.eq_false_iff.mpr c5
      subst c5
      have H1 : (some (([] : List Int), 20)) = some (r1, r2) := by rw [if_neg (show ¬ (false = true) by decide)] at H; exact H
      clear H
      have H := H1
      clear H1
      simp only [Option.some.injEq, Prod.mk.injEq] at H
      obtain ⟨rfl, rfl⟩ := H
      go_enter Try.func28, Try.ntmps28
      go_wp2_with (first | ((with_reducible refine gate_callee (f := 26) rfl ?_); refine goesL_ (some 8) rfl rfl Try.func26 (by kernel_rfl) rfl #[.slice A0 l0.length c0] rfl (by (try simp only [List.map_toArray, List.map_cons, List.map_nil]); first | done | rfl | (simp only [List.length_drop, List.length_take]; rfl)) ?_; (with_reducible refine (fullerref02_Check.calls k _ _ l0 false _ ?side1 ?side2 A3.out).mono ?_); (case side1 => repeat (first | exact (Kd.V_reads' HO0.out).2.2 | (with_reducible refine Kd.C_alloc ?_ _) | (with_reducible refine Kd.C_drewN ?_ _) | (with_reducible refine Kd.C_drew ?_))); (case side2 => exact (Kd.V_reads' HO0.out).2.1); rintro e w' ⟨rfl, ⟨nd, rfl⟩⟩; refine ⟨_, rfl, ?_⟩))
      go_ret2
      exact ⟨_, by first | rfl | (simp [errW_none, errW_some] <;> rfl) | (simp [*, errW_none, errW_some] <;> rfl), (Kd.V_nil _ _ _ _ _), by repeat (first | (with_reducible first | exact HB.out | apply below_alloc | apply pw_below_drewN | apply below_drew1) | exact HB.out)⟩
  · replace c4 := Bool.eq_false_iff.mpr c4
    subst c4
    have H1 : (some (([] : List Int), 20)) = some (r1, r2) := by rw [if_neg (show ¬ (false = true) by decide)] at H; exact H
    clear H
    have H := H1
    clear H1
    simp only [Option.some.injEq, Prod.mk.injEq] at H
    obtain ⟨rfl, rfl⟩ := H
    go_enter Try.func28, Try.ntmps28
    go_wp2_with (first | ((with_reducible refine gate_callee (f := 26) rfl ?_); refine goesL_ (some 8) rfl rfl Try.func26 (by kernel_rfl) rfl #[.slice A0 l0.length c0] rfl (by (try simp only [List.map_toArray, List.map_cons, List.map_nil]); first | done | rfl | (simp only [List.length_drop, List.length_take]; rfl)) ?_; (with_reducible refine (fullerref02_Check.calls k _ _ l0 t364 _ ?side1 ?side2 A3.out).mono ?_); (case side1 => repeat (first | exact (Kd.V_reads' HO0.out).2.2 | (with_reducible refine Kd.C_alloc ?_ _) | (with_reducible refine Kd.C_drewN ?_ _) | (with_reducible refine Kd.C_drew ?_))); (case side2 => exact (Kd.V_reads' HO0.out).2.1); rintro e w' ⟨rfl, ⟨nd, rfl⟩⟩; refine ⟨_, rfl, ?_⟩))
    go_ret2
    exact ⟨_, by first | rfl | (simp [errW_none, errW_some] <;> rfl) | (simp [*, errW_none, errW_some] <;> rfl), (Kd.V_nil _ _ _ _ _), by repeat (first | (with_reducible first | exact HB.out | apply below_alloc | apply pw_below_drewN | apply below_drew1) | exact HB.out)⟩
def fullerref02_Size.f (k : Nat) (l0 : List Int) : Option (Int) := (fullerref02_Check.f k l0).bind fun t365 => (if t365 = true then ((fullerref02_product.f k l0).bind fun t366 => (some t366)) else (some 0))
set_option maxHeartbeats 8000000 in
set_option maxRecDepth 100000 in
theorem fullerref02_Size.calls (k : Nat) (A0 : Option Addr) (c0 : Nat) (l0 : List Int) (r : Int) (w : World) (hr0 : Kd.C (Kd.int .i64) w A0 l0.length l0) (hc0 : l0.length ≤ c0) (h : fullerref02_Size.f k l0 = some r) :
    Calls Try.prog 29 #[.slice A0 l0.length c0] w fun e w' => e = .returned (.int .i64 r) ∧ Drawn0 w w' := by
  have HR0 := Aside0.mk hr0
  have HC0 := Aside0.mk hc0
  clear hr0 hc0
  have H : ((fullerref02_Check.f k l0).bind fun t365 => (if t365 = true then ((fullerref02_product.f k l0).bind fun t366 => (some t366)) else (some 0))) = some r := h
  clear h
  replace H := Option.bind_eq_some_iff.mp H
  obtain ⟨t365, A20, H⟩ := H
  replace H : (if t365 = true then ((fullerref02_product.f k l0).bind fun t366 => (some t366)) else (some 0)) = some r := H
  have A2 := Aside0.mk A20
  clear A20
  by_cases c3 : t365 = true
  · subst c3
    have H1 : ((fullerref02_product.f k l0).bind fun t366 => (some t366)) = some r := by rw [if_pos rfl] at H; exact H
    clear H
    have H := H1
    clear H1
    replace H := Option.bind_eq_some_iff.mp H
    obtain ⟨t366, A40, H⟩ := H
    replace H : (some t366) = some r := H
    have A4 := Aside0.mk A40
    clear A40
    obtain rfl := Option.some.inj H
    go_enter Try.func29, Try.ntmps29
    go_wp2_with (first | ((with_reducible refine gate_callee (f := 26) rfl ?_); refine goesL_ (some 5) rfl rfl Try.func26 (by kernel_rfl) rfl #[.slice A0 l0.length c0] rfl (by (try simp only [List.map_toArray, List.map_cons, List.map_nil]); first | done | rfl | (simp only [List.length_drop, List.length_take]; rfl)) ?_; (with_reducible refine (fullerref02_Check.calls k _ _ l0 true _ ?side1 ?side2 A2.out).mono ?_); (case side1 => repeat (first | exact HR0.out | (with_reducible refine Kd.C_alloc ?_ _) | (with_reducible refine Kd.C_drewN ?_ _) | (with_reducible refine Kd.C_drew ?_))); (case side2 => exact HC0.out); rintro e w' ⟨rfl, ⟨nd, rfl⟩⟩; refine ⟨_, rfl, ?_⟩) | ((with_reducible refine gate_callee (f := 53) rfl ?_); refine goesL_ (some 9) rfl rfl Try.func53 (by kernel_rfl) rfl #[.slice A0 l0.length c0] rfl (by (try simp only [List.map_toArray, List.map_cons, List.map_nil]); first | done | rfl | (simp only [List.length_drop, List.length_take]; rfl)) ?_; (with_reducible refine (fullerref02_product.calls k _ _ l0 t366 _ ?side1 ?side2 A4.out).mono ?_); (case side1 => repeat (first | exact HR0.out | (with_reducible refine Kd.C_alloc ?_ _) | (with_reducible refine Kd.C_drewN ?_ _) | (with_reducible refine Kd.C_drew ?_))); (case side2 => exact HC0.out); rintro e w' ⟨rfl, ⟨nd, rfl⟩⟩; refine ⟨_, rfl, ?_⟩))
    go_ret
    exact ⟨by first | rfl | (simp; done) | (simp [*]; done), by repeat (first | exact Drawn0.refl _ | apply Drawn0.step)⟩
  · replace c3 := Bool.eq_false_iff.mpr c3
    subst c3
    have H1 : (some 0) = some r := by rw [if_neg (show ¬ (false = true) by decide)] at H; exact H
    clear H
    have H := H1
    clear H1
    obtain rfl := Option.some.inj H
    go_enter Try.func29, Try.ntmps29
    go_wp2_with (first | ((with_reducible refine gate_callee (f := 26) rfl ?_); refine goesL_ (some 5) rfl rfl Try.func26 (by kernel_rfl) rfl #[.slice A0 l0.length c0] rfl (by (try simp only [List.map_toArray, List.map_cons, List.map_nil]); first | done | rfl | (simp only [List.length_drop, List.length_take]; rfl)) ?_; (with_reducible refine (fullerref02_Check.calls k _ _ l0 false _ ?side1 ?side2 A2.out).mono ?_); (case side1 => repeat (first | exact HR0.out | (with_reducible refine Kd.C_alloc ?_ _) | (with_reducible refine Kd.C_drewN ?_ _) | (with_reducible refine Kd.C_drew ?_))); (case side2 => exact HC0.out); rintro e w' ⟨rfl, ⟨nd, rfl⟩⟩; refine ⟨_, rfl, ?_⟩))
    go_ret
    exact ⟨by first | rfl | (simp; done) | (simp [*]; done), by repeat (first | exact Drawn0.refl _ | apply Drawn0.step)⟩
def fullerref11_axis.f (l0 : List Int) (a1 : Int) : Option (Bool) := if a1 ≥ 0 then (some (decide (a1 < (l0.length : Int)))) else (some false)
set_option maxHeartbeats 8000000 in
set_option maxRecDepth 100000 in
theorem fullerref11_axis.calls (A0 : Option Addr) (c0 : Nat) (l0 : List Int) (a1 : Int) (r : Bool) (w : World) (hr0 : Kd.C (Kd.int .i64) w A0 l0.length l0) (hc0 : l0.length ≤ c0) (h : fullerref11_axis.f l0 a1 = some r) :
    Calls Try.prog 55 #[.slice A0 l0.length c0, .int .i64 a1] w fun e w' => e = .returned (.bool r) ∧ Drawn0 w w' := by
  have HR0 := Aside0.mk hr0
  have HC0 := Aside0.mk hc0
  clear hr0 hc0
  have H : (if a1 ≥ 0 then (some (decide (a1 < (l0.length : Int)))) else (some false)) = some r := h
  clear h
  by_cases c3 : a1 ≥ 0
  · rw [if_pos c3] at H
    have c3b0 : decide (0 ≤ a1) = true := decide_eq_true c3
    clear c3
    obtain rfl := Option.some.inj H
    go_enter Try.func55, Try.ntmps55
    go_wp2
    go_ret
    exact ⟨by first | rfl | (simp; done) | (simp [*]; done), by repeat (first | exact Drawn0.refl _ | apply Drawn0.step)⟩
  · rw [if_neg c3] at H
    have c3b0 : decide (0 ≤ a1) = false := decide_eq_false c3
    clear c3
    obtain rfl := Option.some.inj H
    go_enter Try.func55, Try.ntmps55
    go_wp2
    go_ret
    exact ⟨by first | rfl | (simp; done) | (simp [*]; done), by repeat (first | exact Drawn0.refl _ | apply Drawn0.step)⟩
end Go.Proofs.Ytalmgghhpgfgoaa.A
