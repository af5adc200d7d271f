/- Lean functions that answer as the Go functions do, and the proofs that they do; no conditions. Written by this session's own driver: a scratch copy of the kit's print with the session's additions (wip/xprint). -/
import Derived.Test.YtalmgghhpgfgoaaAx0
import Derived.Test.YtalmgghhpgfgoaaAx12
import Derived.Test.YtalmgghhpgfgoaaAx17
namespace Go.Proofs.Ytalmgghhpgfgoaa.A
open Go.RowKit Go.Proofs.YtalmgghhpgfgoaaW.PrintWords Go.Proofs.YtalmgghhpgfgoaaW.PrintLast Go.Proofs.YtalmgghhpgfgoaaW.PrintMore
attribute [local go_sem] max2_int min2_int max_two min_two max_three min_three max_four min_four
set_option linter.unusedVariables false
set_option linter.unusedSimpArgs false
mutual
def fullerref11_Shapes.l0 : Nat → List (S25) → List (List Int) → Int → Option ((List (List Int)) × Int × Int)
 | 0, _, _, _ => none
 | k + 1, x0, x6, x7 => if x7 < (x0.length : Int) then (fullerref11_Shapes.l1 k x0 x6 x7 ([] : List (List Int)) 0) else (some (x6, (-1), 0))
def fullerref11_Shapes.l1 : Nat → List (S25) → List (List Int) → Int → List (List Int) → Int → Option ((List (List Int)) × Int × Int)
 | 0, _, _, _, _, _ => none
 | k + 1, x0, x6, x7, x8, x9 => if 0 ≤ x7 then (if x7 < (x0.length : Int) then (if x9 < (((rd_T25 x0 x7).f1).length : Int) then (if 0 ≤ x9 then (if 0 ≤ (rd ((rd_T25 x0 x7).f1) x9) then (if (rd ((rd_T25 x0 x7).f1) x9) < (x6.length : Int) then (if x8.length < 5864062014805 then (fullerref11_Shapes.l1 k x0 x6 x7 (x8 ++ [rd_L1 x6 (rd ((rd_T25 x0 x7).f1) x9)]) (wrap64 (x9 + 1))) else (none)) else (none)) else (none)) else (none)) else ((fullerref11_Node.f k ((rd_T25 x0 x7).f0) ((rd_T25 x0 x7).f1) ((rd_T25 x0 x7).f2) x8).bind fun bt470 => (if bt470.2 = 0 then (if x6.length < 5864062014805 then (fullerref11_Shapes.l0 k x0 (x6 ++ [bt470.1]) (wrap64 (x7 + 1))) else (none)) else (some (([] : List (List Int)), x7, bt470.2))))) else (none)) else (none)
end
def fullerref11_Shapes.f (k : Nat) (l0 : List (S25)) : Option ((List (List Int)) × Int × Int) := (fullerref10_Check.f k l0).bind fun t461 => (if t461 = true then (fullerref11_Shapes.l0 k l0 ([] : List (List Int)) 0) else (some (([] : List (List Int)), (-1), 100)))
set_option maxHeartbeats 8000000 in
set_option maxRecDepth 100000 in
theorem fullerref11_Shapes.calls (k : Nat) (P0_ : Nat → Prop) (A0 : Option Addr) (c0 : Nat) (l0 : List (S25)) (r1 : List (List Int)) (r2 : Int) (r3 : Int) (w : World) (hs0 : Kd.V k25 25 w w.heap.size (fun k_ => P0_ k_) (.slice A0 l0.length c0) l0) (h : fullerref11_Shapes.f k l0 = some (r1, r2, r3)) :
  Calls Try.prog 14 #[.slice A0 l0.length c0] w fun e w' => ∃ v0_ : Value, e = .returned (.tuple #[v0_, .int .i64 r2, .int .i64 r3]) ∧ Kd.N (Kd.slice 3 (Kd.int .i64)) 23 w' w.heap.size (fun k_ => (P0_ k_ ∨ w.heap.size ≤ k_)) v0_ r1 ∧ Below w.heap.size w w' := by
 have hu25 := Try.underlying25
 have HO0 := Aside0.mk (show Kd.V k25 25 w w.heap.size (fun k_ => (P0_ k_ ∨ w.heap.size ≤ k_)) (.slice A0 l0.length c0) l0 from Kd.V_mono hs0 (fun k_ hk => .inl hk))
 have HB := Aside0.mk (Below.refl w.heap.size w)
 have H : ((fullerref10_Check.f k l0).bind fun t461 => (if t461 = true then (fullerref11_Shapes.l0 k l0 ([] : List (List Int)) 0) else (some (([] : List (List Int)), (-1), 100)))) = some (r1, r2, r3) := h
 clear h
 replace H := Option.bind_eq_some_iff.mp H
 obtain ⟨t461, A20, H⟩ := H
 replace H : (if t461 = true then (fullerref11_Shapes.l0 k l0 ([] : List (List Int)) 0) else (some (([] : List (List Int)), (-1), 100))) = some (r1, r2, r3) := H
 have A2 := Aside0.mk A20
 clear A20
 by_cases c3 : t461 = true
 ·subst c3
  have H1 : (fullerref11_Shapes.l0 k l0 ([] : List (List Int)) 0) = some (r1, r2, r3) := by rw [if_pos rfl] at H; exact H
  clear H
  have H := H1
  clear H1
  have H' := Aside0.mk H
  clear H
  go_enter Try.func14, Try.ntmps14
  go_wp2_with (first | ((with_reducible refine gate_callee (f := 31) rfl ?_); refine gL_ (some 13) Try.func31 #[.slice A0 l0.length c0] ?_; (with_reducible refine (fullerref10_Check.calls k _ _ l0 true _ ?side1 ?side2 A2.out).mono ?_); (case side1 => exact mvC_ ((Kd.V_reads' HO0.out).2.2)); (case side2 => exact (Kd.V_reads' HO0.out).2.1); rintro e w4 ⟨rfl, hb⟩; refine ⟨_, rfl, ?_⟩; replace HO0 := Aside0.mk (Kd.V_below (mvV_ HO0.out) hb); replace HB := Aside0.mk (below_step (bq0_ HB.out) hb); (try clear hb)))
  go_loopg [6, 7] k (fun kq v6 v7 w' => ∃ (x6_1 : List (List Int)) (x7_1 : Int), v7 = .int .i64 x7_1 ∧ Aside0 (fullerref11_Shapes.l0 kq l0 x6_1 x7_1 = some (r1, r2, r3)) ∧ Aside0 (kq ≤ k) ∧ Aside0 (Kd.V k25 25 w' w.heap.size (fun k_ => (P0_ k_ ∨ w.heap.size ≤ k_) ∧ some k_ ≠ (v6 : Value).ownBlock) (.slice A0 l0.length c0) l0) ∧ Aside0 (Kd.N (Kd.slice 3 (Kd.int .i64)) 23 w' w.heap.size (fun k_ => (P0_ k_ ∨ w.heap.size ≤ k_)) v6 x6_1) ∧ Aside0 (Below w.heap.size w w'))
  case atStart => exact ⟨(([] : List (List Int))), (0), (by first | rfl | (simp; done) | (simp [*]; done)), H', ⟨Nat.le_refl _⟩, ⟨by (with_reducible repeat (first | apply Kd.V_alloc | apply Kd.V_drewN | apply Kd.V_drew)); exact Kd.V_mono HO0.out (fun _ hk => ⟨hk, (by simp [Value.ownBlock])⟩)⟩, ⟨by first | exact Kd.R_nil _ _ _ _ _ | exact Kd.N_nil _ _ _ _ _ | exact Kd.V_nil _ _ _ _ _ | exact Kd.Q_nil _ _ _ _ _ | exact Kd.S_nil _ _ _ _ _⟩, ⟨bq0_ HB.out⟩⟩
  case round =>
   clear H'
   try clear c1
   try clear p2
   try clear c3
   obtain ⟨x6_1, x7_1, rfl, HA, HK1, HO_0, HO_6, HB⟩ := hrel
   cases gk with
   | zero => exact absurd HA.out (by simp [fullerref11_Shapes.l0])
   | succ k1 =>
    have H := HA.out
    clear HA
    simp only [fullerref11_Shapes.l0] at H
    by_cases c5 : x7_1 < (l0.length : Int)
    ·rw [if_pos c5] at H
     have c5b0 : decide (x7_1 < (l0.length : Int)) = true := decide_eq_true c5
     clear c5
     have H' := Aside0.mk H
     clear H
     go_wp2
     go_loopg [8, 9] k1 (fun kq v8 v9 w' => ∃ (x8_2 : List (List Int)) (x9_2 : Int), v9 = .int .i64 x9_2 ∧ Aside0 (fullerref11_Shapes.l1 kq l0 x6_1 x7_1 x8_2 x9_2 = some (r1, r2, r3)) ∧ Aside0 (kq ≤ k1) ∧ Aside0 (Kd.V k25 25 w' w.heap.size (fun k_ => (P0_ k_ ∨ w.heap.size ≤ k_) ∧ some k_ ≠ (u6 : Value).ownBlock ∧ some k_ ≠ (v8 : Value).ownBlock) (.slice A0 l0.length c0) l0) ∧ Aside0 (Kd.N (Kd.slice 3 (Kd.int .i64)) 23 w' w.heap.size (fun k_ => (P0_ k_ ∨ w.heap.size ≤ k_) ∧ some k_ ≠ (v8 : Value).ownBlock) u6 x6_1) ∧ Aside0 (Kd.N (Kd.slice 3 (Kd.int .i64)) 23 w' w.heap.size (fun k_ => (P0_ k_ ∨ w.heap.size ≤ k_) ∧ some k_ ≠ (u6 : Value).ownBlock) v8 x8_2) ∧ Aside0 (Below w.heap.size w w'))
     case atStart => exact ⟨(([] : List (List Int))), (0), (by first | rfl | (simp; done) | (simp [*]; done)), H', ⟨Nat.le_refl _⟩, ⟨by (with_reducible repeat (first | apply Kd.V_alloc | apply Kd.V_drewN | apply Kd.V_drew)); exact Kd.V_mono HO_0.out (fun _ hk => ⟨hk.1, ⟨hk.2, (by simp [Value.ownBlock])⟩⟩)⟩, ⟨by (with_reducible repeat (first | apply Kd.N_alloc | apply Kd.N_drewN | apply Kd.N_drew)); exact Kd.N_mono HO_6.out (fun _ hk => ⟨hk, (by simp [Value.ownBlock])⟩)⟩, ⟨by first | exact Kd.R_nil _ _ _ _ _ | exact Kd.N_nil _ _ _ _ _ | exact Kd.V_nil _ _ _ _ _ | exact Kd.Q_nil _ _ _ _ _ | exact Kd.S_nil _ _ _ _ _⟩, ⟨bq0_ HB.out⟩⟩
     case round =>
      clear H'
      try clear c1
      try clear p2
      try clear c3
      try clear c5
      try clear c5b0
      try clear p2
      obtain ⟨x8_2, x9_2, rfl, HA, HK2, HO_0, HO_6, HO_8, HB⟩ := hrel
      cases gk with
      | zero => exact absurd HA.out (by simp [fullerref11_Shapes.l1])
      | succ k2 =>
       have H := HA.out
       clear HA
       simp only [fullerref11_Shapes.l1] at H
       by_cases c6 : 0 ≤ x7_1
       ·rw [if_pos c6] at H
        have c6b0 : decide (0 ≤ x7_1) = true := decide_eq_true c6
        clear c6
        by_cases c7 : x7_1 < (l0.length : Int)
        ·rw [if_pos c7] at H
         have c7b0 : decide (x7_1 < (l0.length : Int)) = true := decide_eq_true c7
         clear c7
         by_cases c8 : x9_2 < (((rd_T25 l0 x7_1).f1).length : Int)
         ·rw [if_pos c8] at H
          have c8b0 : decide (x9_2 < (((rd_T25 l0 x7_1).f1).length : Int)) = true := decide_eq_true c8
          clear c8
          by_cases c9 : 0 ≤ x9_2
          ·rw [if_pos c9] at H
           have c9b0 : decide (0 ≤ x9_2) = true := decide_eq_true c9
           clear c9
           by_cases c10 : 0 ≤ (rd ((rd_T25 l0 x7_1).f1) x9_2)
           ·rw [if_pos c10] at H
            have c10b0 : decide (0 ≤ (rd ((rd_T25 l0 x7_1).f1) x9_2)) = true := decide_eq_true c10
            clear c10
            by_cases c11 : (rd ((rd_T25 l0 x7_1).f1) x9_2) < (x6_1.length : Int)
            ·rw [if_pos c11] at H
             have c11b0 : decide ((rd ((rd_T25 l0 x7_1).f1) x9_2) < (x6_1.length : Int)) = true := decide_eq_true c11
             clear c11
             by_cases c12 : x8_2.length < 5864062014805
             ·rw [if_pos c12] at H
              have LMc12 := Aside0.mk c12
              clear c12
              obtain ⟨y466, hy466⟩ : ∃ y_ : List (List Int), y_ = (x8_2 ++ [rd_L1 x6_1 (rd ((rd_T25 l0 x7_1).f1) x9_2)]) := ⟨_, rfl⟩
              replace H : (fullerref11_Shapes.l1 k2 l0 x6_1 x7_1 y466 (wrap64 (x9_2 + 1))) = some (r1, r2, r3) := by first | (rw [hy466]; with_reducible exact H) | (have H2_ := (Option.bind_some _ _).symm.trans H; rw [hy466]; with_reducible exact H2_) | (have H2_ := (Option.bind_some _ _).symm.trans H; with_reducible exact H2_) | with_reducible exact H | (rw [hy466]; exact H) | exact H
              have Ny466 := Aside0.mk hy466
              clear hy466
              have H' := Aside0.mk H
              clear H
              have p462 : 0 ≤ (x7_1 : Int) := od_
              have q462 : x7_1 < (l0.length : Int) := od_
              obtain ⟨ad462, A462_1, c462_1, A462_2, c462_2, e462, hx462_0, hx462_1, hx462_2, hl462_1, hi462_1, hl462_2, hi462_2⟩ := at_T25 (Kd.V_reads' HO_0.out).2.2 x7_1 p462 q462
              cases e462
              obtain ⟨ce462, hce462, hMe462, hcc462⟩ := Kd.V_get HO_0.out z25 x7_1 p462 (by first | exact q462 | exact od_ | (have e_ := (Kd.V_reads' HO_0.out).1; omega))
              obtain ⟨ua462_1, uc462_1, ua462_2, uc462_2, rfl, ul462_1, ge462_1, ul462_2, ge462_2⟩ := k25_openF hMe462
              have hv462_1 := hcc462 1 _ rfl
              rw [add_field _ _ 1 (by omega)] at hv462_1
              replace hv462_1 := Option.some.inj (hv462_1.symm.trans hx462_1)
              injection hv462_1 with hva_ hvn_ hvc_
              rw [hva_] at ge462_1
              rw [hvc_] at ul462_1
              have HL462_1 := Aside0.mk (show Kd.V (Kd.int .i64) 3 _ w.heap.size _ _ ((rd_T25 l0 x7_1).f1) from Kd.V_mk ul462_1 ge462_1)
              clear hva_ hvn_ hvc_ ge462_1 ul462_1
              have hv462_2 := hcc462 2 _ rfl
              rw [add_field _ _ 2 (by omega)] at hv462_2
              replace hv462_2 := Option.some.inj (hv462_2.symm.trans hx462_2)
              injection hv462_2 with hva_ hvn_ hvc_
              rw [hva_] at ge462_2
              rw [hvc_] at ul462_2
              have HL462_2 := Aside0.mk (show Kd.V (Kd.int .i64) 3 _ w.heap.size _ _ ((rd_T25 l0 x7_1).f2) from Kd.V_mk ul462_2 ge462_2)
              clear hva_ hvn_ hvc_ ge462_2 ul462_2 hcc462 hce462
              have HR462_1 := Aside0.mk hi462_1
              have HC462_1 := Aside0.mk hl462_1
              clear hi462_1 hl462_1
              have HR462_2 := Aside0.mk hi462_2
              have HC462_2 := Aside0.mk hl462_2
              clear hi462_2 hl462_2
              replace p462 := eq_true p462
              replace q462 := eq_true q462
              have p463 : 0 ≤ (x7_1 : Int) := od_
              have q463 : x7_1 < (l0.length : Int) := od_
              obtain ⟨ad463, A463_1, c463_1, A463_2, c463_2, e463, hx463_0, hx463_1, hx463_2, hl463_1, hi463_1, hl463_2, hi463_2⟩ := at_T25 (Kd.V_reads' HO_0.out).2.2 x7_1 p463 q463
              obtain rfl : ad462 = ad463 := (by injection e463)
              obtain ⟨ce463, hce463, hMe463, hcc463⟩ := Kd.V_get HO_0.out z25 x7_1 p463 (by first | exact q463 | exact od_ | (have e_ := (Kd.V_reads' HO_0.out).1; omega))
              obtain ⟨ua463_1, uc463_1, ua463_2, uc463_2, rfl, ul463_1, ge463_1, ul463_2, ge463_2⟩ := k25_openF hMe463
              have hv463_1 := hcc463 1 _ rfl
              rw [add_field _ _ 1 (by omega)] at hv463_1
              replace hv463_1 := Option.some.inj (hv463_1.symm.trans hx463_1)
              injection hv463_1 with hva_ hvn_ hvc_
              rw [hva_] at ge463_1
              rw [hvc_] at ul463_1
              have HL463_1 := Aside0.mk (show Kd.V (Kd.int .i64) 3 _ w.heap.size _ _ ((rd_T25 l0 x7_1).f1) from Kd.V_mk ul463_1 ge463_1)
              clear hva_ hvn_ hvc_ ge463_1 ul463_1
              have hv463_2 := hcc463 2 _ rfl
              rw [add_field _ _ 2 (by omega)] at hv463_2
              replace hv463_2 := Option.some.inj (hv463_2.symm.trans hx463_2)
              injection hv463_2 with hva_ hvn_ hvc_
              rw [hva_] at ge463_2
              rw [hvc_] at ul463_2
              have HL463_2 := Aside0.mk (show Kd.V (Kd.int .i64) 3 _ w.heap.size _ _ ((rd_T25 l0 x7_1).f2) from Kd.V_mk ul463_2 ge463_2)
              clear hva_ hvn_ hvc_ ge463_2 ul463_2 hcc463 hce463
              have HR463_1 := Aside0.mk hi463_1
              have HC463_1 := Aside0.mk hl463_1
              clear hi463_1 hl463_1
              have HR463_2 := Aside0.mk hi463_2
              have HC463_2 := Aside0.mk hl463_2
              clear hi463_2 hl463_2
              replace p463 := eq_true p463
              replace q463 := eq_true q463
              have ea_ := Option.some.inj (hx462_1.symm.trans hx463_1)
              injection ea_ with ea_ en_ ec_
              subst ea_
              subst ec_
              clear en_
              have ea_ := Option.some.inj (hx462_2.symm.trans hx463_2)
              injection ea_ with ea_ en_ ec_
              subst ea_
              subst ec_
              clear en_
              have p464 : 0 ≤ (x9_2 : Int) := od_
              have q464 : x9_2 < (((rd_T25 l0 x7_1).f1).length : Int) := od_
              obtain ⟨ad464, e464, hx464_0⟩ := Kd.at_int (by repeat (first | (with_reducible exact HR463_1.out) | (with_reducible refine Kd.C_alloc ?_ _) | (with_reducible refine Kd.C_drewN ?_ _) | (with_reducible refine Kd.C_drew ?_) | exact HR463_1.out)) x9_2 p464 q464
              cases e464
              replace p464 := eq_true p464
              replace q464 := eq_true q464
              obtain ⟨Ao13, co13, eo13⟩ := Kd.N_slice HO_6.out
              subst eo13
              have p465 : 0 ≤ ((rd ((rd_T25 l0 x7_1).f1) x9_2) : Int) := od_
              have q465 : (rd ((rd_T25 l0 x7_1).f1) x9_2) < (x6_1.length : Int) := od_
              obtain ⟨ad465, A465_0, c465_0, e465, hx465_0, hl465_0, hi465_0⟩ := at_L1 (Kd.N_reads' HO_6.out).2.2 (rd ((rd_T25 l0 x7_1).f1) x9_2) p465 q465
              cases e465
              obtain ⟨ce465, hce465, hMe465, hcc465⟩ := Kd.N_get HO_6.out [] (rd ((rd_T25 l0 x7_1).f1) x9_2) p465 (by first | exact q465 | exact od_ | (have e_ := (Kd.N_reads' HO_6.out).1; omega))
              obtain ⟨ua465_0, uc465_0, rfl, ul465_0, ge465_0⟩ := Kd.FK_slice_open hMe465
              have hv465_0 := hcc465 0 _ rfl
              rw [Nat.add_zero, show ((Kd.slice 3 (Kd.int .i64))).sz = 1 from rfl, Nat.mul_one] at hv465_0
              replace hv465_0 := Option.some.inj (hv465_0.symm.trans hx465_0)
              injection hv465_0 with hva_ hvn_ hvc_
              rw [hva_] at ge465_0
              rw [hvc_] at ul465_0
              have HL465_0 := Aside0.mk (show Kd.V (Kd.int .i64) 3 _ w.heap.size _ _ (rd_L1 x6_1 (rd ((rd_T25 l0 x7_1).f1) x9_2)) from Kd.V_mk ul465_0 ge465_0)
              clear hva_ hvn_ hvc_ ge465_0 ul465_0 hcc465 hce465
              have HR465_0 := Aside0.mk hi465_0
              have HC465_0 := Aside0.mk hl465_0
              clear hi465_0 hl465_0
              replace p465 := eq_true p465
              replace q465 := eq_true q465
              go_wp2_with (first | ((with_reducible refine gate_builtin (b := .append) (xs := #[.tmp 32, .tmp 44]) rfl ?_); at_builtin; refine Kd.N_append (Kd.slice 3 (Kd.int .i64)) (w0 := w) w.heap.size rfl (.tmp 32) (.tmp 44) 26 23 (.slice none 0 0) 24 rfl Try.underlying26 info23 rfl (by decide) (by omega) u8 x8_2 (rd_L1 x6_1 (rd ((rd_T25 l0 x7_1).f1) x9_2)) [.slice A465_0 (rd_L1 x6_1 (rd ((rd_T25 l0 x7_1).f1) x9_2)).length c465_0] (fun k_ => (P0_ k_ ∨ w.heap.size ≤ k_) ∧ some k_ ≠ (.slice (some ad465) x6_1.length co13 : Value).ownBlock) (fun k_ => ((fun k_ => (P0_ k_ ∨ w.heap.size ≤ k_) ∧ some k_ ≠ (.slice (some ad465) x6_1.length co13 : Value).ownBlock)) k_ ∧ some k_ ≠ (u8 : Value).ownBlock) rfl rfl ?aP (fun _ hk => hk) ?aF ?aO ?aB ?aS ?aL ?_; (case aP => exact (Kd.FK_slice_mk (Kd.V_reads' (Kd.V_mono (ok' := (fun k_ => ((fun k_ => (P0_ k_ ∨ w.heap.size ≤ k_) ∧ some k_ ≠ (.slice (some ad465) x6_1.length co13 : Value).ownBlock)) k_ ∧ some k_ ≠ (u8 : Value).ownBlock)) (HL465_0.out) (fun k_ hk => ⟨⟨hk.1.1, hk.2⟩, hk.1.2⟩))).2.1 (Kd.V_F (Kd.V_mono (ok' := (fun k_ => ((fun k_ => (P0_ k_ ∨ w.heap.size ≤ k_) ∧ some k_ ≠ (.slice (some ad465) x6_1.length co13 : Value).ownBlock)) k_ ∧ some k_ ≠ (u8 : Value).ownBlock)) (HL465_0.out) (fun k_ hk => ⟨⟨hk.1.1, hk.2⟩, hk.1.2⟩))))); (case aB => exact (bq0_ HB.out)); (case aF => exact (fun k_ hk => ⟨(.inr (Nat.le_trans (below_size (bq0_ HB.out)) hk)), Kd.fresh' (Kd.N_lt (mvN_ HO_6.out)) k_ hk⟩)); (case aO => exact (mvN_ HO_8.out)); (case aS => exact (below_size (bq0_ HB.out))); (case aL => have := LMc12.out; omega); intro v467 w14 ho hb hg hat; rw [← Ny466.out] at ho; have HO468 := Aside0.mk (ho); replace HO_0 := Aside0.mk (Kd.V_afterv (ok := (fun k_ => (P0_ k_ ∨ w.heap.size ≤ k_) ∧ some k_ ≠ (.slice (some ad465) x6_1.length co13 : Value).ownBlock)) (by (with_reducible repeat (first | apply Kd.V_alloc | apply Kd.V_drewN | apply Kd.V_drew)); exact Kd.V_mono HO_0.out (fun _ hk => ⟨⟨hk.1, hk.2.1⟩, hk.2.2⟩)) hg hat); replace HO_6 := Aside0.mk (Kd.N_afterv (ok := (fun k_ => (P0_ k_ ∨ w.heap.size ≤ k_))) (mvN_ HO_6.out) hg hat); replace HL462_1 := Aside0.mk (Kd.V_afterv (ok := (fun k_ => (P0_ k_ ∨ w.heap.size ≤ k_) ∧ some k_ ≠ (.slice (some ad465) x6_1.length co13 : Value).ownBlock)) (by (with_reducible repeat (first | apply Kd.V_alloc | apply Kd.V_drewN | apply Kd.V_drew)); exact Kd.V_mono HL462_1.out (fun _ hk => ⟨⟨hk.1, hk.2.1⟩, hk.2.2⟩)) hg hat); replace HL462_2 := Aside0.mk (Kd.V_afterv (ok := (fun k_ => (P0_ k_ ∨ w.heap.size ≤ k_) ∧ some k_ ≠ (.slice (some ad465) x6_1.length co13 : Value).ownBlock)) (by (with_reducible repeat (first | apply Kd.V_alloc | apply Kd.V_drewN | apply Kd.V_drew)); exact Kd.V_mono HL462_2.out (fun _ hk => ⟨⟨hk.1, hk.2.1⟩, hk.2.2⟩)) hg hat); replace HL463_1 := Aside0.mk (Kd.V_afterv (ok := (fun k_ => (P0_ k_ ∨ w.heap.size ≤ k_) ∧ some k_ ≠ (.slice (some ad465) x6_1.length co13 : Value).ownBlock)) (by (with_reducible repeat (first | apply Kd.V_alloc | apply Kd.V_drewN | apply Kd.V_drew)); exact Kd.V_mono HL463_1.out (fun _ hk => ⟨⟨hk.1, hk.2.1⟩, hk.2.2⟩)) hg hat); replace HL463_2 := Aside0.mk (Kd.V_afterv (ok := (fun k_ => (P0_ k_ ∨ w.heap.size ≤ k_) ∧ some k_ ≠ (.slice (some ad465) x6_1.length co13 : Value).ownBlock)) (by (with_reducible repeat (first | apply Kd.V_alloc | apply Kd.V_drewN | apply Kd.V_drew)); exact Kd.V_mono HL463_2.out (fun _ hk => ⟨⟨hk.1, hk.2.1⟩, hk.2.2⟩)) hg hat); replace HL465_0 := Aside0.mk (Kd.V_afterv (ok := (fun k_ => (P0_ k_ ∨ w.heap.size ≤ k_) ∧ some k_ ≠ (.slice (some ad465) x6_1.length co13 : Value).ownBlock)) (by (with_reducible repeat (first | apply Kd.V_alloc | apply Kd.V_drewN | apply Kd.V_drew)); exact Kd.V_mono HL465_0.out (fun _ hk => ⟨⟨hk.1.1, hk.2⟩, hk.1.2⟩)) hg hat); replace HB := Aside0.mk (hb); clear HO_8 ho hb hg hat))
              go_roundg k2
              case measure => have := HK1.out; have := HK2.out; omega
              case rel => exact ⟨(y466), (wrap64 (x9_2 + 1)), (by first | rfl | (simp; done) | (simp [*]; done)), H', ⟨by have := HK1.out; have := HK2.out; omega⟩, ⟨by (with_reducible repeat (first | apply Kd.V_alloc | apply Kd.V_drewN | apply Kd.V_drew)); exact Kd.V_mono HO_0.out (fun _ hk => ⟨hk.1.1, ⟨hk.1.2, hk.2⟩⟩)⟩, ⟨mvN_ HO_6.out⟩, ⟨mvN_ HO468.out⟩, ⟨bq0_ HB.out⟩⟩
             ·rw [if_neg c12] at H
              exact absurd H (by simp)
            ·rw [if_neg c11] at H
             exact absurd H (by simp)
           ·rw [if_neg c10] at H
            exact absurd H (by simp)
          ·rw [if_neg c9] at H
           exact absurd H (by simp)
         ·rw [if_neg c8] at H
          have c8b0 : decide (x9_2 < (((rd_T25 l0 x7_1).f1).length : Int)) = false := decide_eq_false c8
          clear c8
          replace H := Option.bind_eq_some_iff.mp H
          obtain ⟨⟨t470, t473⟩, A150, H⟩ := H
          replace H : (if t473 = 0 then (if x6_1.length < 5864062014805 then (fullerref11_Shapes.l0 k2 l0 (x6_1 ++ [t470]) (wrap64 (x7_1 + 1))) else (none)) else (some (([] : List (List Int)), x7_1, t473))) = some (r1, r2, r3) := H
          have A15 := Aside0.mk A150
          clear A150
          by_cases c16 : t473 = 0
          ·rw [if_pos c16] at H
           obtain ⟨c16b0, c16b1⟩ := eqT_ c16
           clear c16
           by_cases c17 : x6_1.length < 5864062014805
           ·rw [if_pos c17] at H
            have LMc17 := Aside0.mk c17
            clear c17
            obtain ⟨y474, hy474⟩ : ∃ y_ : List (List Int), y_ = (x6_1 ++ [t470]) := ⟨_, rfl⟩
            replace H : (fullerref11_Shapes.l0 k2 l0 y474 (wrap64 (x7_1 + 1))) = some (r1, r2, r3) := by first | (rw [hy474]; with_reducible exact H) | (have H2_ := (Option.bind_some _ _).symm.trans H; rw [hy474]; with_reducible exact H2_) | (have H2_ := (Option.bind_some _ _).symm.trans H; with_reducible exact H2_) | with_reducible exact H | (rw [hy474]; exact H) | exact H
            have Ny474 := Aside0.mk hy474
            clear hy474
            have H' := Aside0.mk H
            clear H
            have p462 : 0 ≤ (x7_1 : Int) := od_
            have q462 : x7_1 < (l0.length : Int) := od_
            obtain ⟨ad462, A462_1, c462_1, A462_2, c462_2, e462, hx462_0, hx462_1, hx462_2, hl462_1, hi462_1, hl462_2, hi462_2⟩ := at_T25 (Kd.V_reads' HO_0.out).2.2 x7_1 p462 q462
            cases e462
            obtain ⟨ce462, hce462, hMe462, hcc462⟩ := Kd.V_get HO_0.out z25 x7_1 p462 (by first | exact q462 | exact od_ | (have e_ := (Kd.V_reads' HO_0.out).1; omega))
            obtain ⟨ua462_1, uc462_1, ua462_2, uc462_2, rfl, ul462_1, ge462_1, ul462_2, ge462_2⟩ := k25_openF hMe462
            have hv462_1 := hcc462 1 _ rfl
            rw [add_field _ _ 1 (by omega)] at hv462_1
            replace hv462_1 := Option.some.inj (hv462_1.symm.trans hx462_1)
            injection hv462_1 with hva_ hvn_ hvc_
            rw [hva_] at ge462_1
            rw [hvc_] at ul462_1
            have HL462_1 := Aside0.mk (show Kd.V (Kd.int .i64) 3 _ w.heap.size _ _ ((rd_T25 l0 x7_1).f1) from Kd.V_mk ul462_1 ge462_1)
            clear hva_ hvn_ hvc_ ge462_1 ul462_1
            have hv462_2 := hcc462 2 _ rfl
            rw [add_field _ _ 2 (by omega)] at hv462_2
            replace hv462_2 := Option.some.inj (hv462_2.symm.trans hx462_2)
            injection hv462_2 with hva_ hvn_ hvc_
            rw [hva_] at ge462_2
            rw [hvc_] at ul462_2
            have HL462_2 := Aside0.mk (show Kd.V (Kd.int .i64) 3 _ w.heap.size _ _ ((rd_T25 l0 x7_1).f2) from Kd.V_mk ul462_2 ge462_2)
            clear hva_ hvn_ hvc_ ge462_2 ul462_2 hcc462 hce462
            have HR462_1 := Aside0.mk hi462_1
            have HC462_1 := Aside0.mk hl462_1
            clear hi462_1 hl462_1
            have HR462_2 := Aside0.mk hi462_2
            have HC462_2 := Aside0.mk hl462_2
            clear hi462_2 hl462_2
            replace p462 := eq_true p462
            replace q462 := eq_true q462
            have p469 : 0 ≤ (x7_1 : Int) := od_
            have q469 : x7_1 < (l0.length : Int) := od_
            obtain ⟨ad469, A469_1, c469_1, A469_2, c469_2, e469, hx469_0, hx469_1, hx469_2, hl469_1, hi469_1, hl469_2, hi469_2⟩ := at_T25 (Kd.V_reads' HO_0.out).2.2 x7_1 p469 q469
            obtain rfl : ad462 = ad469 := (by injection e469)
            obtain ⟨ce469, hce469, hMe469, hcc469⟩ := Kd.V_get HO_0.out z25 x7_1 p469 (by first | exact q469 | exact od_ | (have e_ := (Kd.V_reads' HO_0.out).1; omega))
            obtain ⟨ua469_1, uc469_1, ua469_2, uc469_2, rfl, ul469_1, ge469_1, ul469_2, ge469_2⟩ := k25_openF hMe469
            have hv469_1 := hcc469 1 _ rfl
            rw [add_field _ _ 1 (by omega)] at hv469_1
            replace hv469_1 := Option.some.inj (hv469_1.symm.trans hx469_1)
            injection hv469_1 with hva_ hvn_ hvc_
            rw [hva_] at ge469_1
            rw [hvc_] at ul469_1
            have HL469_1 := Aside0.mk (show Kd.V (Kd.int .i64) 3 _ w.heap.size _ _ ((rd_T25 l0 x7_1).f1) from Kd.V_mk ul469_1 ge469_1)
            clear hva_ hvn_ hvc_ ge469_1 ul469_1
            have hv469_2 := hcc469 2 _ rfl
            rw [add_field _ _ 2 (by omega)] at hv469_2
            replace hv469_2 := Option.some.inj (hv469_2.symm.trans hx469_2)
            injection hv469_2 with hva_ hvn_ hvc_
            rw [hva_] at ge469_2
            rw [hvc_] at ul469_2
            have HL469_2 := Aside0.mk (show Kd.V (Kd.int .i64) 3 _ w.heap.size _ _ ((rd_T25 l0 x7_1).f2) from Kd.V_mk ul469_2 ge469_2)
            clear hva_ hvn_ hvc_ ge469_2 ul469_2 hcc469 hce469
            have HR469_1 := Aside0.mk hi469_1
            have HC469_1 := Aside0.mk hl469_1
            clear hi469_1 hl469_1
            have HR469_2 := Aside0.mk hi469_2
            have HC469_2 := Aside0.mk hl469_2
            clear hi469_2 hl469_2
            replace p469 := eq_true p469
            replace q469 := eq_true q469
            have ea_ := Option.some.inj (hx462_1.symm.trans hx469_1)
            injection ea_ with ea_ en_ ec_
            subst ea_
            subst ec_
            clear en_
            have ea_ := Option.some.inj (hx462_2.symm.trans hx469_2)
            injection ea_ with ea_ en_ ec_
            subst ea_
            subst ec_
            clear en_
            obtain ⟨Ao18, co18, eo18⟩ := Kd.N_slice HO_8.out
            subst eo18
            go_wp2_with (first | ((with_reducible refine gate_callee (f := 12) rfl ?_); refine gL_ (some 52) Try.func12 #[.agg #[.int .i64 ((rd_T25 l0 x7_1).f0), .slice A462_1 ((rd_T25 l0 x7_1).f1).length c462_1, .slice A462_2 ((rd_T25 l0 x7_1).f2).length c462_2], .slice Ao18 x8_2.length co18] ?_; (with_reducible refine (fullerref11_Node.calls k2 ((rd_T25 l0 x7_1).f0) _ _ ((rd_T25 l0 x7_1).f1) (fun k_ => ((P0_ k_ ∨ w.heap.size ≤ k_) ∧ (some k_ ≠ (u6 : Value).ownBlock ∧ some k_ ≠ (.slice Ao18 x8_2.length co18 : Value).ownBlock))) _ _ ((rd_T25 l0 x7_1).f2) (fun k_ => ((P0_ k_ ∨ w.heap.size ≤ k_) ∧ some k_ ≠ (u6 : Value).ownBlock)) _ _ x8_2 t470 t473 _ ?side1 ?side2 ?side3 ?side4 A15.out).mono ?_); (case side1 => repeat (first | exact (by repeat (first | (with_reducible exact HR469_1.out) | (with_reducible refine Kd.C_alloc ?_ _) | (with_reducible refine Kd.C_drewN ?_ _) | (with_reducible refine Kd.C_drew ?_) | exact HR469_1.out)) | (with_reducible refine Kd.C_alloc ?_ _) | (with_reducible refine Kd.C_drewN ?_ _) | (with_reducible refine Kd.C_drew ?_))); (case side2 => exact HC469_1.out); (case side3 => exact HL469_2.out); (case side4 => exact Kd.N_V (HO_8.out)); rintro e w19 ⟨v471, rfl, ho0, hb⟩; refine ⟨_, rfl, ?_⟩; have HO472 := Aside0.mk (Kd.V_lower (Kd.V_mono (ok' := fun k_ => (P0_ k_ ∨ w.heap.size ≤ k_) ∧ some k_ ≠ (u6 : Value).ownBlock) ho0 (fun k_ hk_ => ⟨Or.elim hk_ (fun hs_ => Or.elim hs_ (fun hs_ => hs_.1) (fun hs_ => hs_.1)) (fun hn_ => (.inr (Nat.le_trans (below_size (bq0_ HB.out)) hn_))), Or.elim hk_ (fun hs_ => Or.elim hs_ (fun hs_ => hs_.2.1) (fun hs_ => hs_.2)) (fun hn_ => (Kd.fresh' (Kd.N_lt (mvN_ HO_6.out)) k_ hn_))⟩)) (below_size (bq0_ HB.out))); replace HO_0 := Aside0.mk (Kd.V_below (mvV_ HO_0.out) hb); replace HO_6 := Aside0.mk (Kd.N_below (mvN_ HO_6.out) hb); replace HO_8 := Aside0.mk (Kd.N_below (mvN_ HO_8.out) hb); replace HL462_1 := Aside0.mk (Kd.V_below (mvV_ HL462_1.out) hb); replace HL462_2 := Aside0.mk (Kd.V_below (mvV_ HL462_2.out) hb); replace HL469_1 := Aside0.mk (Kd.V_below (mvV_ HL469_1.out) hb); replace HL469_2 := Aside0.mk (Kd.V_below (mvV_ HL469_2.out) hb); replace HR462_1 := Aside0.mk (Kd.C_below (by repeat (first | (with_reducible exact HR462_1.out) | (with_reducible refine Kd.C_alloc ?_ _) | (with_reducible refine Kd.C_drewN ?_ _) | (with_reducible refine Kd.C_drew ?_) | exact HR462_1.out)) hb); replace HR462_2 := Aside0.mk (Kd.C_below (by repeat (first | (with_reducible exact HR462_2.out) | (with_reducible refine Kd.C_alloc ?_ _) | (with_reducible refine Kd.C_drewN ?_ _) | (with_reducible refine Kd.C_drew ?_) | exact HR462_2.out)) hb); replace HR469_1 := Aside0.mk (Kd.C_below (by repeat (first | (with_reducible exact HR469_1.out) | (with_reducible refine Kd.C_alloc ?_ _) | (with_reducible refine Kd.C_drewN ?_ _) | (with_reducible refine Kd.C_drew ?_) | exact HR469_1.out)) hb); replace HR469_2 := Aside0.mk (Kd.C_below (by repeat (first | (with_reducible exact HR469_2.out) | (with_reducible refine Kd.C_alloc ?_ _) | (with_reducible refine Kd.C_drewN ?_ _) | (with_reducible refine Kd.C_drew ?_) | exact HR469_2.out)) hb); replace HB := Aside0.mk (below_step (bq0_ HB.out) hb); (try clear hb); (try clear ho0); obtain ⟨Ao21, co21, eo21⟩ := Kd.V_slice HO472.out; subst eo21) | ((with_reducible refine gate_builtin (b := .append) (xs := #[.tmp 59, .tmp 61]) rfl ?_); at_builtin; refine Kd.N_append (Kd.slice 3 (Kd.int .i64)) (w0 := w) w.heap.size rfl (.tmp 59) (.tmp 61) 26 23 (.slice none 0 0) 24 rfl Try.underlying26 info23 rfl (by decide) (by omega) u6 x6_1 t470 [.slice Ao21 t470.length co21] (fun k_ => (P0_ k_ ∨ w.heap.size ≤ k_)) (fun k_ => ((fun k_ => (P0_ k_ ∨ w.heap.size ≤ k_))) k_ ∧ some k_ ≠ (u6 : Value).ownBlock) rfl rfl ?aP (fun _ hk => hk) ?aF ?aO ?aB ?aS ?aL ?_; (case aP => exact (Kd.FK_slice_mk (Kd.V_reads' (Kd.V_mono (ok' := (fun k_ => ((fun k_ => (P0_ k_ ∨ w.heap.size ≤ k_))) k_ ∧ some k_ ≠ (u6 : Value).ownBlock)) (HO472.out) (fun k_ hk => ⟨hk.1, hk.2⟩))).2.1 (Kd.V_F (Kd.V_mono (ok' := (fun k_ => ((fun k_ => (P0_ k_ ∨ w.heap.size ≤ k_))) k_ ∧ some k_ ≠ (u6 : Value).ownBlock)) (HO472.out) (fun k_ hk => ⟨hk.1, hk.2⟩))))); (case aB => exact (bq0_ HB.out)); (case aF => exact (fun k_ hk => (.inr (Nat.le_trans (below_size (bq0_ HB.out)) hk)))); (case aO => exact (by (with_reducible repeat (first | apply Kd.N_alloc | apply Kd.N_drewN | apply Kd.N_drew)); exact Kd.N_mono HO_6.out (fun _ hk => hk.1))); (case aS => exact (below_size (bq0_ HB.out))); (case aL => have := LMc17.out; omega); intro v475 w20 ho hb hg hat; rw [← Ny474.out] at ho; have HO476 := Aside0.mk (ho); replace HO_0 := Aside0.mk (Kd.V_afterv (ok := (fun k_ => (P0_ k_ ∨ w.heap.size ≤ k_) ∧ some k_ ≠ (.slice Ao18 x8_2.length co18 : Value).ownBlock)) (by (with_reducible repeat (first | apply Kd.V_alloc | apply Kd.V_drewN | apply Kd.V_drew)); exact Kd.V_mono HO_0.out (fun _ hk => ⟨⟨hk.1, hk.2.2⟩, hk.2.1⟩)) hg hat); replace HO_8 := Aside0.mk (Kd.N_afterv (ok := (fun k_ => (P0_ k_ ∨ w.heap.size ≤ k_))) (mvN_ HO_8.out) hg hat); replace HL462_1 := Aside0.mk (Kd.V_afterv (ok := (fun k_ => (P0_ k_ ∨ w.heap.size ≤ k_) ∧ some k_ ≠ (.slice Ao18 x8_2.length co18 : Value).ownBlock)) (by (with_reducible repeat (first | apply Kd.V_alloc | apply Kd.V_drewN | apply Kd.V_drew)); exact Kd.V_mono HL462_1.out (fun _ hk => ⟨⟨hk.1, hk.2.2⟩, hk.2.1⟩)) hg hat); replace HL462_2 := Aside0.mk (Kd.V_afterv (ok := (fun k_ => (P0_ k_ ∨ w.heap.size ≤ k_) ∧ some k_ ≠ (.slice Ao18 x8_2.length co18 : Value).ownBlock)) (by (with_reducible repeat (first | apply Kd.V_alloc | apply Kd.V_drewN | apply Kd.V_drew)); exact Kd.V_mono HL462_2.out (fun _ hk => ⟨⟨hk.1, hk.2.2⟩, hk.2.1⟩)) hg hat); replace HL469_1 := Aside0.mk (Kd.V_afterv (ok := (fun k_ => (P0_ k_ ∨ w.heap.size ≤ k_) ∧ some k_ ≠ (.slice Ao18 x8_2.length co18 : Value).ownBlock)) (by (with_reducible repeat (first | apply Kd.V_alloc | apply Kd.V_drewN | apply Kd.V_drew)); exact Kd.V_mono HL469_1.out (fun _ hk => ⟨⟨hk.1, hk.2.2⟩, hk.2.1⟩)) hg hat); replace HL469_2 := Aside0.mk (Kd.V_afterv (ok := (fun k_ => (P0_ k_ ∨ w.heap.size ≤ k_) ∧ some k_ ≠ (.slice Ao18 x8_2.length co18 : Value).ownBlock)) (by (with_reducible repeat (first | apply Kd.V_alloc | apply Kd.V_drewN | apply Kd.V_drew)); exact Kd.V_mono HL469_2.out (fun _ hk => ⟨⟨hk.1, hk.2.2⟩, hk.2.1⟩)) hg hat); replace HO472 := Aside0.mk (Kd.V_afterv (ok := (fun k_ => (P0_ k_ ∨ w.heap.size ≤ k_))) (mvV_ HO472.out) hg hat); replace HB := Aside0.mk (hb); clear HO_6 ho hb hg hat))
            go_roundg k2
            case measure => have := HK1.out; have := HK2.out; omega
            case rel => exact ⟨(y474), (wrap64 (x7_1 + 1)), (by first | rfl | (simp; done) | (simp [*]; done)), H', ⟨by have := HK1.out; have := HK2.out; omega⟩, ⟨by (with_reducible repeat (first | apply Kd.V_alloc | apply Kd.V_drewN | apply Kd.V_drew)); exact Kd.V_mono HO_0.out (fun _ hk => ⟨hk.1.1, hk.2⟩)⟩, ⟨mvN_ HO476.out⟩, ⟨bq0_ HB.out⟩⟩
           ·rw [if_neg c17] at H
            exact absurd H (by simp)
          ·rw [if_neg c16] at H
           have c16b0 : (t473 == 0) = false := beq_eq_false_iff_ne.mpr c16
           have c16b1 : (t473 != 0) = true := bne_iff_ne.mpr c16
           simp only [Option.some.injEq, Prod.mk.injEq] at H
           obtain ⟨rfl, rfl, rfl⟩ := H
           have p462 : 0 ≤ (x7_1 : Int) := od_
           have q462 : x7_1 < (l0.length : Int) := od_
           obtain ⟨ad462, A462_1, c462_1, A462_2, c462_2, e462, hx462_0, hx462_1, hx462_2, hl462_1, hi462_1, hl462_2, hi462_2⟩ := at_T25 (Kd.V_reads' HO_0.out).2.2 x7_1 p462 q462
           cases e462
           obtain ⟨ce462, hce462, hMe462, hcc462⟩ := Kd.V_get HO_0.out z25 x7_1 p462 (by first | exact q462 | exact od_ | (have e_ := (Kd.V_reads' HO_0.out).1; omega))
           obtain ⟨ua462_1, uc462_1, ua462_2, uc462_2, rfl, ul462_1, ge462_1, ul462_2, ge462_2⟩ := k25_openF hMe462
           have hv462_1 := hcc462 1 _ rfl
           rw [add_field _ _ 1 (by omega)] at hv462_1
           replace hv462_1 := Option.some.inj (hv462_1.symm.trans hx462_1)
           injection hv462_1 with hva_ hvn_ hvc_
           rw [hva_] at ge462_1
           rw [hvc_] at ul462_1
           have HL462_1 := Aside0.mk (show Kd.V (Kd.int .i64) 3 _ w.heap.size _ _ ((rd_T25 l0 x7_1).f1) from Kd.V_mk ul462_1 ge462_1)
           clear hva_ hvn_ hvc_ ge462_1 ul462_1
           have hv462_2 := hcc462 2 _ rfl
           rw [add_field _ _ 2 (by omega)] at hv462_2
           replace hv462_2 := Option.some.inj (hv462_2.symm.trans hx462_2)
           injection hv462_2 with hva_ hvn_ hvc_
           rw [hva_] at ge462_2
           rw [hvc_] at ul462_2
           have HL462_2 := Aside0.mk (show Kd.V (Kd.int .i64) 3 _ w.heap.size _ _ ((rd_T25 l0 x7_1).f2) from Kd.V_mk ul462_2 ge462_2)
           clear hva_ hvn_ hvc_ ge462_2 ul462_2 hcc462 hce462
           have HR462_1 := Aside0.mk hi462_1
           have HC462_1 := Aside0.mk hl462_1
           clear hi462_1 hl462_1
           have HR462_2 := Aside0.mk hi462_2
           have HC462_2 := Aside0.mk hl462_2
           clear hi462_2 hl462_2
           replace p462 := eq_true p462
           replace q462 := eq_true q462
           have p469 : 0 ≤ (x7_1 : Int) := od_
           have q469 : x7_1 < (l0.length : Int) := od_
           obtain ⟨ad469, A469_1, c469_1, A469_2, c469_2, e469, hx469_0, hx469_1, hx469_2, hl469_1, hi469_1, hl469_2, hi469_2⟩ := at_T25 (Kd.V_reads' HO_0.out).2.2 x7_1 p469 q469
           obtain rfl : ad462 = ad469 := (by injection e469)
           obtain ⟨ce469, hce469, hMe469, hcc469⟩ := Kd.V_get HO_0.out z25 x7_1 p469 (by first | exact q469 | exact od_ | (have e_ := (Kd.V_reads' HO_0.out).1; omega))
           obtain ⟨ua469_1, uc469_1, ua469_2, uc469_2, rfl, ul469_1, ge469_1, ul469_2, ge469_2⟩ := k25_openF hMe469
           have hv469_1 := hcc469 1 _ rfl
           rw [add_field _ _ 1 (by omega)] at hv469_1
           replace hv469_1 := Option.some.inj (hv469_1.symm.trans hx469_1)
           injection hv469_1 with hva_ hvn_ hvc_
           rw [hva_] at ge469_1
           rw [hvc_] at ul469_1
           have HL469_1 := Aside0.mk (show Kd.V (Kd.int .i64) 3 _ w.heap.size _ _ ((rd_T25 l0 x7_1).f1) from Kd.V_mk ul469_1 ge469_1)
           clear hva_ hvn_ hvc_ ge469_1 ul469_1
           have hv469_2 := hcc469 2 _ rfl
           rw [add_field _ _ 2 (by omega)] at hv469_2
           replace hv469_2 := Option.some.inj (hv469_2.symm.trans hx469_2)
           injection hv469_2 with hva_ hvn_ hvc_
           rw [hva_] at ge469_2
           rw [hvc_] at ul469_2
           have HL469_2 := Aside0.mk (show Kd.V (Kd.int .i64) 3 _ w.heap.size _ _ ((rd_T25 l0 x7_1).f2) from Kd.V_mk ul469_2 ge469_2)
           clear hva_ hvn_ hvc_ ge469_2 ul469_2 hcc469 hce469
           have HR469_1 := Aside0.mk hi469_1
           have HC469_1 := Aside0.mk hl469_1
           clear hi469_1 hl469_1
           have HR469_2 := Aside0.mk hi469_2
           have HC469_2 := Aside0.mk hl469_2
           clear hi469_2 hl469_2
           replace p469 := eq_true p469
           replace q469 := eq_true q469
           have ea_ := Option.some.inj (hx462_1.symm.trans hx469_1)
           injection ea_ with ea_ en_ ec_
           subst ea_
           subst ec_
           clear en_
           have ea_ := Option.some.inj (hx462_2.symm.trans hx469_2)
           injection ea_ with ea_ en_ ec_
           subst ea_
           subst ec_
           clear en_
           obtain ⟨Ao22, co22, eo22⟩ := Kd.N_slice HO_8.out
           subst eo22
           go_wp2_with (first | ((with_reducible refine gate_callee (f := 12) rfl ?_); refine gL_ (some 52) Try.func12 #[.agg #[.int .i64 ((rd_T25 l0 x7_1).f0), .slice A462_1 ((rd_T25 l0 x7_1).f1).length c462_1, .slice A462_2 ((rd_T25 l0 x7_1).f2).length c462_2], .slice Ao22 x8_2.length co22] ?_; (with_reducible refine (fullerref11_Node.calls k2 ((rd_T25 l0 x7_1).f0) _ _ ((rd_T25 l0 x7_1).f1) (fun k_ => ((P0_ k_ ∨ w.heap.size ≤ k_) ∧ (some k_ ≠ (u6 : Value).ownBlock ∧ some k_ ≠ (.slice Ao22 x8_2.length co22 : Value).ownBlock))) _ _ ((rd_T25 l0 x7_1).f2) (fun k_ => ((P0_ k_ ∨ w.heap.size ≤ k_) ∧ some k_ ≠ (u6 : Value).ownBlock)) _ _ x8_2 t470 t473 _ ?side1 ?side2 ?side3 ?side4 A15.out).mono ?_); (case side1 => repeat (first | exact (by repeat (first | (with_reducible exact HR469_1.out) | (with_reducible refine Kd.C_alloc ?_ _) | (with_reducible refine Kd.C_drewN ?_ _) | (with_reducible refine Kd.C_drew ?_) | exact HR469_1.out)) | (with_reducible refine Kd.C_alloc ?_ _) | (with_reducible refine Kd.C_drewN ?_ _) | (with_reducible refine Kd.C_drew ?_))); (case side2 => exact HC469_1.out); (case side3 => exact HL469_2.out); (case side4 => exact Kd.N_V (HO_8.out)); rintro e w23 ⟨v471, rfl, ho0, hb⟩; refine ⟨_, rfl, ?_⟩; have HO472 := Aside0.mk (Kd.V_lower (Kd.V_mono (ok' := fun k_ => (P0_ k_ ∨ w.heap.size ≤ k_) ∧ some k_ ≠ (u6 : Value).ownBlock) ho0 (fun k_ hk_ => ⟨Or.elim hk_ (fun hs_ => Or.elim hs_ (fun hs_ => hs_.1) (fun hs_ => hs_.1)) (fun hn_ => (.inr (Nat.le_trans (below_size (bq0_ HB.out)) hn_))), Or.elim hk_ (fun hs_ => Or.elim hs_ (fun hs_ => hs_.2.1) (fun hs_ => hs_.2)) (fun hn_ => (Kd.fresh' (Kd.N_lt (mvN_ HO_6.out)) k_ hn_))⟩)) (below_size (bq0_ HB.out))); replace HO_0 := Aside0.mk (Kd.V_below (mvV_ HO_0.out) hb); replace HO_6 := Aside0.mk (Kd.N_below (mvN_ HO_6.out) hb); replace HO_8 := Aside0.mk (Kd.N_below (mvN_ HO_8.out) hb); replace HL462_1 := Aside0.mk (Kd.V_below (mvV_ HL462_1.out) hb); replace HL462_2 := Aside0.mk (Kd.V_below (mvV_ HL462_2.out) hb); replace HL469_1 := Aside0.mk (Kd.V_below (mvV_ HL469_1.out) hb); replace HL469_2 := Aside0.mk (Kd.V_below (mvV_ HL469_2.out) hb); replace HR462_1 := Aside0.mk (Kd.C_below (by repeat (first | (with_reducible exact HR462_1.out) | (with_reducible refine Kd.C_alloc ?_ _) | (with_reducible refine Kd.C_drewN ?_ _) | (with_reducible refine Kd.C_drew ?_) | exact HR462_1.out)) hb); replace HR462_2 := Aside0.mk (Kd.C_below (by repeat (first | (with_reducible exact HR462_2.out) | (with_reducible refine Kd.C_alloc ?_ _) | (with_reducible refine Kd.C_drewN ?_ _) | (with_reducible refine Kd.C_drew ?_) | exact HR462_2.out)) hb); replace HR469_1 := Aside0.mk (Kd.C_below (by repeat (first | (with_reducible exact HR469_1.out) | (with_reducible refine Kd.C_alloc ?_ _) | (with_reducible refine Kd.C_drewN ?_ _) | (with_reducible refine Kd.C_drew ?_) | exact HR469_1.out)) hb); replace HR469_2 := Aside0.mk (Kd.C_below (by repeat (first | (with_reducible exact HR469_2.out) | (with_reducible refine Kd.C_alloc ?_ _) | (with_reducible refine Kd.C_drewN ?_ _) | (with_reducible refine Kd.C_drew ?_) | exact HR469_2.out)) hb); replace HB := Aside0.mk (below_step (bq0_ HB.out) hb); (try clear hb); (try clear ho0)))
           go_ret3
           exact ⟨_, by first | rfl | (simp <;> rfl) | (simp [*] <;> rfl), by first | exact Kd.R_nil _ _ _ _ _ | exact Kd.N_nil _ _ _ _ _ | exact Kd.V_nil _ _ _ _ _ | exact Kd.Q_nil _ _ _ _ _ | exact Kd.S_nil _ _ _ _ _, bq0_ HB.out⟩
        ·rw [if_neg c7] at H
         exact absurd H (by simp)
       ·rw [if_neg c6] at H
        exact absurd H (by simp)
    ·rw [if_neg c5] at H
     have c5b0 : decide (x7_1 < (l0.length : Int)) = false := decide_eq_false c5
     clear c5
     simp only [Option.some.injEq, Prod.mk.injEq] at H
     obtain ⟨rfl, rfl, rfl⟩ := H
     go_wp2
     go_ret3
     exact ⟨_, by first | rfl | (simp <;> rfl) | (simp [*] <;> rfl), mvN_ HO_6.out, bq0_ HB.out⟩
 ·replace c3 := Bool.eq_false_iff.mpr c3
  subst c3
  have H1 : (some (([] : List (List Int)), (-1), 100)) = some (r1, r2, r3) := by rw [if_neg (show ¬ (false = true) by decide)] at H; exact H
  clear H
  have H := H1
  clear H1
  simp only [Option.some.injEq, Prod.mk.injEq] at H
  obtain ⟨rfl, rfl, rfl⟩ := H
  go_enter Try.func14, Try.ntmps14
  go_wp2_with (first | ((with_reducible refine gate_callee (f := 31) rfl ?_); refine gL_ (some 13) Try.func31 #[.slice A0 l0.length c0] ?_; (with_reducible refine (fullerref10_Check.calls k _ _ l0 false _ ?side1 ?side2 A2.out).mono ?_); (case side1 => exact mvC_ ((Kd.V_reads' HO0.out).2.2)); (case side2 => exact (Kd.V_reads' HO0.out).2.1); rintro e w24 ⟨rfl, hb⟩; refine ⟨_, rfl, ?_⟩; replace HO0 := Aside0.mk (Kd.V_below (mvV_ HO0.out) hb); replace HB := Aside0.mk (below_step (bq0_ HB.out) hb); (try clear hb)))
  go_ret3
  exact ⟨_, by first | rfl | (simp <;> rfl) | (simp [*] <;> rfl), by first | exact Kd.R_nil _ _ _ _ _ | exact Kd.N_nil _ _ _ _ _ | exact Kd.V_nil _ _ _ _ _ | exact Kd.Q_nil _ _ _ _ _ | exact Kd.S_nil _ _ _ _ _, bq0_ HB.out⟩
end Go.Proofs.Ytalmgghhpgfgoaa.A
