/- Lean functions that answer as the Go functions do, and the proofs that they do; no conditions. Written by this session's own driver: a scratch copy of the kit's print with the session's additions (wip/xprint). -/
import Derived.Test.YtklnbfdoklcmfaaAx0
import Derived.Test.YtklnbfdoklcmfaaAx2
import Derived.Test.YtklnbfdoklcmfaaAx3
import Derived.Test.YtklnbfdoklcmfaaAx10
import Derived.Test.YtklnbfdoklcmfaaAx11
import Derived.Test.YtklnbfdoklcmfaaAx12
import Derived.Test.YtklnbfdoklcmfaaAx14
import Derived.Test.YtklnbfdoklcmfaaAx15
import Derived.Test.YtklnbfdoklcmfaaAx16
namespace Go.Proofs.Ytklnbfdoklcmfaa.A
open Go.RowKit Go.Proofs.YtklnbfdoklcmfaaW.PrintWords Go.Proofs.YtklnbfdoklcmfaaW.PrintLast Go.Proofs.YtklnbfdoklcmfaaW.PrintMore
attribute [local go_sem] max2_int min2_int max_two min_two max_three min_three max_four min_four   -- for this text's walks alone
set_option linter.unusedVariables false
set_option linter.unusedSimpArgs false

/-! ### fullerlaw10_GraphTells: function 3 -/
def fullerlaw10_GraphTells.j0 : Nat → List (S35) → Int → Bool → Bool → Option (Bool)
 | 0, _, _, _, _ => none
 | k + 1, x0, x1, x5, x10 => if x5 = true then (if x10 = true then ((graph_Params.f k x0).bind fun t384 => ((fullerref10_Params.f k x0).bind fun t387 => ((fullerref02_Same.f k t384 t387).bind fun t390 => (if t390 = true then ((graph_Uses.f k x0 x1).bind fun t391 => ((fullerref10_Uses.f k x0 x1).bind fun t394 => ((fullerref02_Same.f k t391 t394).bind fun t397 => (if t397 = true then ((graph_Live.f x0).bind fun t398 => ((fullerref10_Live.f k x0).bind fun t401 => ((fullerref02_Same.f k t398 t401).bind fun t404 => (some t404)))) else (some false))))) else (some false))))) else (some false)) else (some false)
def fullerlaw10_GraphTells.f (k : Nat) (l0 : List (S35)) (a1 : Int) : Option (Bool) := (fullerlaw10_awake.f k).bind fun t369 => ((fullerref10_Few.f k l0).bind fun t370 => (if t370 = true then ((graph_Inputs.f l0).bind fun bt371 => ((fullerref10_Inputs.f k l0).bind fun bt375 => ((graph_Check.f l0).bind fun t379 => ((fullerref10_Check.f k l0).bind fun t380 => (if (t379 == t380) = true then ((graph_Arity.f a1).bind fun t381 => ((fullerref10_Arity.f k a1).bind fun t382 => (if t381 = t382 then ((fullerref02_Same.f k bt371.1 bt375.1).bind fun t383 => (if t383 = true then (fullerlaw10_GraphTells.j0 k l0 a1 t369 (bt371.2 == bt375.2)) else (fullerlaw10_GraphTells.j0 k l0 a1 t369 false))) else (fullerlaw10_GraphTells.j0 k l0 a1 t369 false)))) else (fullerlaw10_GraphTells.j0 k l0 a1 t369 false)))))) else (some t369)))
theorem fullerlaw10_GraphTells.mono_l : ∀ k, (∀ y0 y1 y2 y3, LeO (fullerlaw10_GraphTells.j0 k y0 y1 y2 y3) (fullerlaw10_GraphTells.j0 (k + 1) y0 y1 y2 y3))
 | 0 => fun _ _ _ _ r h => by simp [fullerlaw10_GraphTells.j0] at h
 | k + 1 => by
  have ih0 := fullerlaw10_GraphTells.mono_l k
  ·intro y0 y1 y2 y3
   unfold fullerlaw10_GraphTells.j0
   repeat' first
   | (with_reducible exact ih0 _ _ _ _)
   | (with_reducible exact fullerlaw10_awake.mono _)
   | (with_reducible exact fullerref02_Same.mono _ _ _)
   | (with_reducible exact fullerref10_Arity.mono _ _)
   | (with_reducible exact fullerref10_Check.mono _ _)
   | (with_reducible exact fullerref10_Few.mono _ _)
   | (with_reducible exact fullerref10_Inputs.mono _ _)
   | (with_reducible exact fullerref10_Live.mono _ _)
   | (with_reducible exact fullerref10_Params.mono _ _)
   | (with_reducible exact fullerref10_Uses.mono _ _ _)
   | (with_reducible exact graph_Params.mono _ _)
   | (with_reducible exact graph_Uses.mono _ _ _)
   | (with_reducible exact LeO.refl _)
   | (with_reducible exact LeO.none _)
   | (with_reducible refine LeO.ite ?_ ?_)
   | (with_reducible refine LeO.bind ?_ (fun _ => ?_))
   | exact ih0 _ _ _ _
   | exact fullerlaw10_awake.mono _
   | exact fullerref02_Same.mono _ _ _
   | exact fullerref10_Arity.mono _ _
   | exact fullerref10_Check.mono _ _
   | exact fullerref10_Few.mono _ _
   | exact fullerref10_Inputs.mono _ _
   | exact fullerref10_Live.mono _ _
   | exact fullerref10_Params.mono _ _
   | exact fullerref10_Uses.mono _ _ _
   | exact graph_Params.mono _ _
   | exact graph_Uses.mono _ _ _
   | exact LeO.none _
   | refine LeO.ite ?_ ?_
   | refine LeO.bind ?_ (fun _ => ?_)
theorem fullerlaw10_GraphTells.mono : ∀ a0 a1 k, LeO (fullerlaw10_GraphTells.f k a0 a1) (fullerlaw10_GraphTells.f (k + 1) a0 a1) := by
 intro a0 a1 k
 have ih0 := fullerlaw10_GraphTells.mono_l k
 unfold fullerlaw10_GraphTells.f
 repeat' first
   | (with_reducible exact ih0 _ _ _ _)
   | (with_reducible exact fullerlaw10_awake.mono _)
   | (with_reducible exact fullerref02_Same.mono _ _ _)
   | (with_reducible exact fullerref10_Arity.mono _ _)
   | (with_reducible exact fullerref10_Check.mono _ _)
   | (with_reducible exact fullerref10_Few.mono _ _)
   | (with_reducible exact fullerref10_Inputs.mono _ _)
   | (with_reducible exact fullerref10_Live.mono _ _)
   | (with_reducible exact fullerref10_Params.mono _ _)
   | (with_reducible exact fullerref10_Uses.mono _ _ _)
   | (with_reducible exact graph_Params.mono _ _)
   | (with_reducible exact graph_Uses.mono _ _ _)
   | (with_reducible exact LeO.refl _)
   | (with_reducible exact LeO.none _)
   | (with_reducible refine LeO.ite ?_ ?_)
   | (with_reducible refine LeO.bind ?_ (fun _ => ?_))
   | exact ih0 _ _ _ _
   | exact fullerlaw10_awake.mono _
   | exact fullerref02_Same.mono _ _ _
   | exact fullerref10_Arity.mono _ _
   | exact fullerref10_Check.mono _ _
   | exact fullerref10_Few.mono _ _
   | exact fullerref10_Inputs.mono _ _
   | exact fullerref10_Live.mono _ _
   | exact fullerref10_Params.mono _ _
   | exact fullerref10_Uses.mono _ _ _
   | exact graph_Params.mono _ _
   | exact graph_Uses.mono _ _ _
   | exact LeO.none _
   | refine LeO.ite ?_ ?_
   | refine LeO.bind ?_ (fun _ => ?_)
set_option maxHeartbeats 8000000 in
set_option maxRecDepth 100000 in
theorem fullerlaw10_GraphTells.calls (k : Nat) (A0 : Option Addr) (c0 : Nat) (l0 : List (S35)) (a1 : Int) (r : Bool) (w : World) (hr0 : Kd.C k35 w A0 l0.length l0) (hc0 : l0.length ≤ c0) (h : fullerlaw10_GraphTells.f k l0 a1 = some r) :
  Calls Try.prog 3 #[.slice A0 l0.length c0, .int .i64 a1] w fun e w' => e = .returned (.bool r) ∧ Below w.heap.size w w' := by
 have HR0 := Aside0.mk hr0
 have HC0 := Aside0.mk hc0
 clear hr0 hc0
 have HB := Aside0.mk (Below.refl w.heap.size w)
 have H : ((fullerlaw10_awake.f k).bind fun t369 => ((fullerref10_Few.f k l0).bind fun t370 => (if t370 = true then ((graph_Inputs.f l0).bind fun bt371 => ((fullerref10_Inputs.f k l0).bind fun bt375 => ((graph_Check.f l0).bind fun t379 => ((fullerref10_Check.f k l0).bind fun t380 => (if (t379 == t380) = true then ((graph_Arity.f a1).bind fun t381 => ((fullerref10_Arity.f k a1).bind fun t382 => (if t381 = t382 then ((fullerref02_Same.f k bt371.1 bt375.1).bind fun t383 => (if t383 = true then (fullerlaw10_GraphTells.j0 k l0 a1 t369 (bt371.2 == bt375.2)) else (fullerlaw10_GraphTells.j0 k l0 a1 t369 false))) else (fullerlaw10_GraphTells.j0 k l0 a1 t369 false)))) else (fullerlaw10_GraphTells.j0 k l0 a1 t369 false)))))) else (some t369)))) = some r := h
 clear h
 replace H := Option.bind_eq_some_iff.mp H
 obtain ⟨t369, A30, H⟩ := H
 replace H : ((fullerref10_Few.f k l0).bind fun t370 => (if t370 = true then ((graph_Inputs.f l0).bind fun bt371 => ((fullerref10_Inputs.f k l0).bind fun bt375 => ((graph_Check.f l0).bind fun t379 => ((fullerref10_Check.f k l0).bind fun t380 => (if (t379 == t380) = true then ((graph_Arity.f a1).bind fun t381 => ((fullerref10_Arity.f k a1).bind fun t382 => (if t381 = t382 then ((fullerref02_Same.f k bt371.1 bt375.1).bind fun t383 => (if t383 = true then (fullerlaw10_GraphTells.j0 k l0 a1 t369 (bt371.2 == bt375.2)) else (fullerlaw10_GraphTells.j0 k l0 a1 t369 false))) else (fullerlaw10_GraphTells.j0 k l0 a1 t369 false)))) else (fullerlaw10_GraphTells.j0 k l0 a1 t369 false)))))) else (some t369))) = some r := H
 have A3 := Aside0.mk A30
 clear A30
 replace H := Option.bind_eq_some_iff.mp H
 obtain ⟨t370, A40, H⟩ := H
 replace H : (if t370 = true then ((graph_Inputs.f l0).bind fun bt371 => ((fullerref10_Inputs.f k l0).bind fun bt375 => ((graph_Check.f l0).bind fun t379 => ((fullerref10_Check.f k l0).bind fun t380 => (if (t379 == t380) = true then ((graph_Arity.f a1).bind fun t381 => ((fullerref10_Arity.f k a1).bind fun t382 => (if t381 = t382 then ((fullerref02_Same.f k bt371.1 bt375.1).bind fun t383 => (if t383 = true then (fullerlaw10_GraphTells.j0 k l0 a1 t369 (bt371.2 == bt375.2)) else (fullerlaw10_GraphTells.j0 k l0 a1 t369 false))) else (fullerlaw10_GraphTells.j0 k l0 a1 t369 false)))) else (fullerlaw10_GraphTells.j0 k l0 a1 t369 false)))))) else (some t369)) = some r := H
 have A4 := Aside0.mk A40
 clear A40
 by_cases c5 : t370 = true
 ·subst c5
  have H1 : ((graph_Inputs.f l0).bind fun bt371 => ((fullerref10_Inputs.f k l0).bind fun bt375 => ((graph_Check.f l0).bind fun t379 => ((fullerref10_Check.f k l0).bind fun t380 => (if (t379 == t380) = true then ((graph_Arity.f a1).bind fun t381 => ((fullerref10_Arity.f k a1).bind fun t382 => (if t381 = t382 then ((fullerref02_Same.f k bt371.1 bt375.1).bind fun t383 => (if t383 = true then (fullerlaw10_GraphTells.j0 k l0 a1 t369 (bt371.2 == bt375.2)) else (fullerlaw10_GraphTells.j0 k l0 a1 t369 false))) else (fullerlaw10_GraphTells.j0 k l0 a1 t369 false)))) else (fullerlaw10_GraphTells.j0 k l0 a1 t369 false)))))) = some r := by rw [if_pos rfl] at H; exact H
  clear H
  have H := H1
  clear H1
  replace H := Option.bind_eq_some_iff.mp H
  obtain ⟨⟨t371, t372⟩, A60, H⟩ := H
  replace H : ((fullerref10_Inputs.f k l0).bind fun bt375 => ((graph_Check.f l0).bind fun t379 => ((fullerref10_Check.f k l0).bind fun t380 => (if (t379 == t380) = true then ((graph_Arity.f a1).bind fun t381 => ((fullerref10_Arity.f k a1).bind fun t382 => (if t381 = t382 then ((fullerref02_Same.f k t371 bt375.1).bind fun t383 => (if t383 = true then (fullerlaw10_GraphTells.j0 k l0 a1 t369 (t372 == bt375.2)) else (fullerlaw10_GraphTells.j0 k l0 a1 t369 false))) else (fullerlaw10_GraphTells.j0 k l0 a1 t369 false)))) else (fullerlaw10_GraphTells.j0 k l0 a1 t369 false))))) = some r := H
  have A6 := Aside0.mk A60
  clear A60
  replace H := Option.bind_eq_some_iff.mp H
  obtain ⟨⟨t375, t378⟩, A70, H⟩ := H
  replace H : ((graph_Check.f l0).bind fun t379 => ((fullerref10_Check.f k l0).bind fun t380 => (if (t379 == t380) = true then ((graph_Arity.f a1).bind fun t381 => ((fullerref10_Arity.f k a1).bind fun t382 => (if t381 = t382 then ((fullerref02_Same.f k t371 t375).bind fun t383 => (if t383 = true then (fullerlaw10_GraphTells.j0 k l0 a1 t369 (t372 == t378)) else (fullerlaw10_GraphTells.j0 k l0 a1 t369 false))) else (fullerlaw10_GraphTells.j0 k l0 a1 t369 false)))) else (fullerlaw10_GraphTells.j0 k l0 a1 t369 false)))) = some r := H
  have A7 := Aside0.mk A70
  clear A70
  have HC8 := Aside0.mk H
  clear H
  go_enter Try.func3, Try.ntmps3
  go_upto_region 6 with (first | ((with_reducible refine gate_callee (f := 9) rfl ?_); refine gL_ (some 11) Try.func9 #[] ?_; (with_reducible refine (fullerlaw10_awake.calls k  t369 _ A3.out).mono ?_); rintro e w9 ⟨rfl, hb⟩; refine ⟨_, rfl, ?_⟩; replace HB := Aside0.mk (below_step (bq0_ HB.out) hb); (try clear hb)) | ((with_reducible refine gate_callee (f := 10) rfl ?_); refine gL_ (some 13) Try.func10 #[.slice A0 l0.length c0] ?_; (with_reducible refine (fullerref10_Few.calls k _ _ l0 true _ ?side1 ?side2 A4.out).mono ?_); (case side1 => exact mvC_ ((Kd.C_below HR0.out HB.out))); (case side2 => exact HC0.out); rintro e w' ⟨rfl, ⟨nd, rfl⟩⟩; refine ⟨_, rfl, ?_⟩) | ((with_reducible refine gate_callee (f := 11) rfl ?_); refine gL_ (some 18) Try.func11 #[.slice A0 l0.length c0] ?_; (with_reducible refine (graph_Inputs.calls _ _ l0 t371 t372 _ ?side1 ?side2 A6.out).mono ?_); (case side1 => repeat (first | exact (Kd.C_below HR0.out (bq0_ HB.out)) | (with_reducible refine Kd.C_alloc ?_ _) | (with_reducible refine Kd.C_drewN ?_ _) | (with_reducible refine Kd.C_drew ?_))); (case side2 => exact HC0.out); rintro e w10 ⟨v373, rfl, ho0, hb⟩; refine ⟨_, rfl, ?_⟩; have HO374 := Aside0.mk (Kd.R_lower ho0 (below_size (bq0_ HB.out))); replace HB := Aside0.mk (below_step (bq0_ HB.out) hb); (try clear hb); (try clear ho0)) | ((with_reducible refine gate_callee (f := 12) rfl ?_); refine gL_ (some 23) Try.func12 #[.slice A0 l0.length c0] ?_; (with_reducible refine (fullerref10_Inputs.calls k (fun k_ => k_ < w.heap.size) _ _ l0 t375 t378 _ ?side1 A7.out).mono ?_); (case side1 => exact Kd.V_mk HC0.out (Kd.F_below (Kd.C_F k35_heap HR0.out) (bq0_ HB.out))); rintro e w11 ⟨v376, rfl, ho0, hb⟩; refine ⟨_, rfl, ?_⟩; have HO377 := Aside0.mk (Kd.V_lower (Kd.V_mono (ok' := fun k_ => some k_ ≠ (v373 : Value).ownBlock) ho0 (fun k_ hk_ => Or.elim hk_ (fun hs_ => fun e_ => Nat.not_le.2 hs_ (Kd.R_base HO374.out k_ e_.symm)) (fun hn_ => (Kd.fresh' (Kd.R_lt (mvR_ HO374.out)) k_ hn_)))) (below_size (bq0_ HB.out))); replace HO374 := Aside0.mk (Kd.R_below (mvR_ HO374.out) hb); replace HB := Aside0.mk (below_step (bq0_ HB.out) hb); (try clear hb); (try clear ho0)))
  (try simp only [Act.put, sA_, sB_, sC_])
  go_cut [10] (fun v10 wc => ∃ (kq : Nat) (x10_7 : Bool), v10 = .bool x10_7 ∧ Aside0 (fullerlaw10_GraphTells.j0 kq l0 a1 t369 x10_7 = some r) ∧ Aside0 (kq ≤ k) ∧ Aside0 (Below w.heap.size w wc))
  case first =>
   have H := HC8.out
   clear HC8
   replace H := Option.bind_eq_some_iff.mp H
   obtain ⟨t379, A120, H⟩ := H
   replace H : ((fullerref10_Check.f k l0).bind fun t380 => (if (t379 == t380) = true then ((graph_Arity.f a1).bind fun t381 => ((fullerref10_Arity.f k a1).bind fun t382 => (if t381 = t382 then ((fullerref02_Same.f k t371 t375).bind fun t383 => (if t383 = true then (fullerlaw10_GraphTells.j0 k l0 a1 t369 (t372 == t378)) else (fullerlaw10_GraphTells.j0 k l0 a1 t369 false))) else (fullerlaw10_GraphTells.j0 k l0 a1 t369 false)))) else (fullerlaw10_GraphTells.j0 k l0 a1 t369 false))) = some r := H
   have A12 := Aside0.mk A120
   clear A120
   replace H := Option.bind_eq_some_iff.mp H
   obtain ⟨t380, A130, H⟩ := H
   replace H : (if (t379 == t380) = true then ((graph_Arity.f a1).bind fun t381 => ((fullerref10_Arity.f k a1).bind fun t382 => (if t381 = t382 then ((fullerref02_Same.f k t371 t375).bind fun t383 => (if t383 = true then (fullerlaw10_GraphTells.j0 k l0 a1 t369 (t372 == t378)) else (fullerlaw10_GraphTells.j0 k l0 a1 t369 false))) else (fullerlaw10_GraphTells.j0 k l0 a1 t369 false)))) else (fullerlaw10_GraphTells.j0 k l0 a1 t369 false)) = some r := H
   have A13 := Aside0.mk A130
   clear A130
   by_cases c14 : (t379 == t380) = true
   ·rw [if_pos c14] at H
    have c14b0 : (t379 == t380) = true := c14
    (try (have c14b1 : decide (t379 = t380) = true := by simpa using c14))
    (try (have c14b2 : (t379 == t380) = true := by simpa using c14))
    clear c14
    (first | rw [c14b0] | (simp only [i64_w, i32_w]; rw [c14b0]) | skip)
    replace H := Option.bind_eq_some_iff.mp H
    obtain ⟨t381, A150, H⟩ := H
    replace H : ((fullerref10_Arity.f k a1).bind fun t382 => (if t381 = t382 then ((fullerref02_Same.f k t371 t375).bind fun t383 => (if t383 = true then (fullerlaw10_GraphTells.j0 k l0 a1 t369 (t372 == t378)) else (fullerlaw10_GraphTells.j0 k l0 a1 t369 false))) else (fullerlaw10_GraphTells.j0 k l0 a1 t369 false))) = some r := H
    have A15 := Aside0.mk A150
    clear A150
    replace H := Option.bind_eq_some_iff.mp H
    obtain ⟨t382, A160, H⟩ := H
    replace H : (if t381 = t382 then ((fullerref02_Same.f k t371 t375).bind fun t383 => (if t383 = true then (fullerlaw10_GraphTells.j0 k l0 a1 t369 (t372 == t378)) else (fullerlaw10_GraphTells.j0 k l0 a1 t369 false))) else (fullerlaw10_GraphTells.j0 k l0 a1 t369 false)) = some r := H
    have A16 := Aside0.mk A160
    clear A160
    by_cases c17 : t381 = t382
    ·rw [if_pos c17] at H
     obtain ⟨c17b0, c17b1⟩ := eqT_ c17
     clear c17
     replace H := Option.bind_eq_some_iff.mp H
     obtain ⟨t383, A180, H⟩ := H
     replace H : (if t383 = true then (fullerlaw10_GraphTells.j0 k l0 a1 t369 (t372 == t378)) else (fullerlaw10_GraphTells.j0 k l0 a1 t369 false)) = some r := H
     have A18 := Aside0.mk A180
     clear A180
     by_cases c19 : t383 = true
     ·subst c19
      have H1 : (fullerlaw10_GraphTells.j0 k l0 a1 t369 (t372 == t378)) = some r := by rw [if_pos rfl] at H; exact H
      clear H
      have H := H1
      clear H1
      have H' := Aside0.mk H
      clear H
      go_wp2_with (first | ((with_reducible refine gate_callee (f := 13) rfl ?_); refine gL_ (some 27) Try.func13 #[.slice A0 l0.length c0] ?_; (with_reducible refine (graph_Check.calls _ _ l0 t379 _ ?side1 ?side2 A12.out).mono ?_); (case side1 => exact mvC_ ((Kd.C_below HR0.out HB.out))); (case side2 => exact HC0.out); rintro e w20 ⟨rfl, hb⟩; refine ⟨_, rfl, ?_⟩; replace HO374 := Aside0.mk (Kd.R_below (mvR_ HO374.out) hb); replace HO377 := Aside0.mk (Kd.V_below (mvV_ HO377.out) hb); replace HB := Aside0.mk (below_step (bq0_ HB.out) hb); (try clear hb)) | ((with_reducible refine gate_callee (f := 14) rfl ?_); refine gL_ (some 29) Try.func14 #[.slice A0 l0.length c0] ?_; (with_reducible refine (fullerref10_Check.calls k _ _ l0 t380 _ ?side1 ?side2 A13.out).mono ?_); (case side1 => exact mvC_ ((Kd.C_below HR0.out HB.out))); (case side2 => exact HC0.out); rintro e w21 ⟨rfl, hb⟩; refine ⟨_, rfl, ?_⟩; replace HO374 := Aside0.mk (Kd.R_below (mvR_ HO374.out) hb); replace HO377 := Aside0.mk (Kd.V_below (mvV_ HO377.out) hb); replace HB := Aside0.mk (below_step (bq0_ HB.out) hb); (try clear hb)) | (go_at_call 15; (with_reducible refine (graph_Arity.calls a1 t381 _ A15.out).mono ?_); rintro e w22 ⟨rfl, hb⟩; replace HO374 := Aside0.mk (Kd.R_below (mvR_ HO374.out) hb); replace HO377 := Aside0.mk (Kd.V_below (mvV_ HO377.out) hb); replace HB := Aside0.mk (below_step (bq0_ HB.out) hb); (try clear hb)) | (go_at_call 16; (with_reducible refine (fullerref10_Arity.calls k a1 t382 _ A16.out).mono ?_); rintro e w' ⟨rfl, ⟨nd, rfl⟩⟩; obtain ⟨Ao23, co23, eo23⟩ := Kd.R_slice HO374.out; subst eo23; obtain ⟨Ao24, co24, eo24⟩ := Kd.V_slice HO377.out; subst eo24) | (go_at_call 17; (with_reducible refine (fullerref02_Same.calls k _ _ t371 _ _ t375 true _ ?side1 ?side2 ?side3 ?side4 A18.out).mono ?_); (case side1 => exact mvC_ ((Kd.R_reads' HO374.out).2.2)); (case side2 => exact (Kd.R_reads' HO374.out).2.1); (case side3 => exact mvC_ ((Kd.V_reads' HO377.out).2.2)); (case side4 => exact (Kd.V_reads' HO377.out).2.1); rintro e w' ⟨rfl, ⟨nd, rfl⟩⟩))
      go_meet
      case rel => exact ⟨_, ((t372 == t378)), (by first | rfl | (simp; done) | (simp [*]; done)), H', ⟨by first | omega | exact Nat.le_refl _⟩, ⟨bq0_ HB.out⟩⟩
     ·replace c19 := Bool.eq_false_iff.mpr c19
      subst c19
      have H1 : (fullerlaw10_GraphTells.j0 k l0 a1 t369 false) = some r := by rw [if_neg (show ¬ (false = true) by decide)] at H; exact H
      clear H
      have H := H1
      clear H1
      have H' := Aside0.mk H
      clear H
      go_wp2_with (first | ((with_reducible refine gate_callee (f := 13) rfl ?_); refine gL_ (some 27) Try.func13 #[.slice A0 l0.length c0] ?_; (with_reducible refine (graph_Check.calls _ _ l0 t379 _ ?side1 ?side2 A12.out).mono ?_); (case side1 => exact mvC_ ((Kd.C_below HR0.out HB.out))); (case side2 => exact HC0.out); rintro e w25 ⟨rfl, hb⟩; refine ⟨_, rfl, ?_⟩; replace HO374 := Aside0.mk (Kd.R_below (mvR_ HO374.out) hb); replace HO377 := Aside0.mk (Kd.V_below (mvV_ HO377.out) hb); replace HB := Aside0.mk (below_step (bq0_ HB.out) hb); (try clear hb)) | ((with_reducible refine gate_callee (f := 14) rfl ?_); refine gL_ (some 29) Try.func14 #[.slice A0 l0.length c0] ?_; (with_reducible refine (fullerref10_Check.calls k _ _ l0 t380 _ ?side1 ?side2 A13.out).mono ?_); (case side1 => exact mvC_ ((Kd.C_below HR0.out HB.out))); (case side2 => exact HC0.out); rintro e w26 ⟨rfl, hb⟩; refine ⟨_, rfl, ?_⟩; replace HO374 := Aside0.mk (Kd.R_below (mvR_ HO374.out) hb); replace HO377 := Aside0.mk (Kd.V_below (mvV_ HO377.out) hb); replace HB := Aside0.mk (below_step (bq0_ HB.out) hb); (try clear hb)) | (go_at_call 15; (with_reducible refine (graph_Arity.calls a1 t381 _ A15.out).mono ?_); rintro e w27 ⟨rfl, hb⟩; replace HO374 := Aside0.mk (Kd.R_below (mvR_ HO374.out) hb); replace HO377 := Aside0.mk (Kd.V_below (mvV_ HO377.out) hb); replace HB := Aside0.mk (below_step (bq0_ HB.out) hb); (try clear hb)) | (go_at_call 16; (with_reducible refine (fullerref10_Arity.calls k a1 t382 _ A16.out).mono ?_); rintro e w' ⟨rfl, ⟨nd, rfl⟩⟩; obtain ⟨Ao28, co28, eo28⟩ := Kd.R_slice HO374.out; subst eo28; obtain ⟨Ao29, co29, eo29⟩ := Kd.V_slice HO377.out; subst eo29) | (go_at_call 17; (with_reducible refine (fullerref02_Same.calls k _ _ t371 _ _ t375 false _ ?side1 ?side2 ?side3 ?side4 A18.out).mono ?_); (case side1 => exact mvC_ ((Kd.R_reads' HO374.out).2.2)); (case side2 => exact (Kd.R_reads' HO374.out).2.1); (case side3 => exact mvC_ ((Kd.V_reads' HO377.out).2.2)); (case side4 => exact (Kd.V_reads' HO377.out).2.1); rintro e w' ⟨rfl, ⟨nd, rfl⟩⟩))
      go_meet
      case rel => exact ⟨_, (false), (by first | rfl | (simp; done) | (simp [*]; done)), H', ⟨by first | omega | exact Nat.le_refl _⟩, ⟨bq0_ HB.out⟩⟩
    ·rw [if_neg c17] at H
     have c17b0 : (t381 == t382) = false := beq_eq_false_iff_ne.mpr c17
     have c17b1 : (t381 != t382) = true := bne_iff_ne.mpr c17
     have H' := Aside0.mk H
     clear H
     go_wp2_with (first | ((with_reducible refine gate_callee (f := 13) rfl ?_); refine gL_ (some 27) Try.func13 #[.slice A0 l0.length c0] ?_; (with_reducible refine (graph_Check.calls _ _ l0 t379 _ ?side1 ?side2 A12.out).mono ?_); (case side1 => exact mvC_ ((Kd.C_below HR0.out HB.out))); (case side2 => exact HC0.out); rintro e w30 ⟨rfl, hb⟩; refine ⟨_, rfl, ?_⟩; replace HO374 := Aside0.mk (Kd.R_below (mvR_ HO374.out) hb); replace HO377 := Aside0.mk (Kd.V_below (mvV_ HO377.out) hb); replace HB := Aside0.mk (below_step (bq0_ HB.out) hb); (try clear hb)) | ((with_reducible refine gate_callee (f := 14) rfl ?_); refine gL_ (some 29) Try.func14 #[.slice A0 l0.length c0] ?_; (with_reducible refine (fullerref10_Check.calls k _ _ l0 t380 _ ?side1 ?side2 A13.out).mono ?_); (case side1 => exact mvC_ ((Kd.C_below HR0.out HB.out))); (case side2 => exact HC0.out); rintro e w31 ⟨rfl, hb⟩; refine ⟨_, rfl, ?_⟩; replace HO374 := Aside0.mk (Kd.R_below (mvR_ HO374.out) hb); replace HO377 := Aside0.mk (Kd.V_below (mvV_ HO377.out) hb); replace HB := Aside0.mk (below_step (bq0_ HB.out) hb); (try clear hb)) | (go_at_call 15; (with_reducible refine (graph_Arity.calls a1 t381 _ A15.out).mono ?_); rintro e w32 ⟨rfl, hb⟩; replace HO374 := Aside0.mk (Kd.R_below (mvR_ HO374.out) hb); replace HO377 := Aside0.mk (Kd.V_below (mvV_ HO377.out) hb); replace HB := Aside0.mk (below_step (bq0_ HB.out) hb); (try clear hb)) | (go_at_call 16; (with_reducible refine (fullerref10_Arity.calls k a1 t382 _ A16.out).mono ?_); rintro e w' ⟨rfl, ⟨nd, rfl⟩⟩))
     go_meet
     case rel => exact ⟨_, (false), (by first | rfl | (simp; done) | (simp [*]; done)), H', ⟨by first | omega | exact Nat.le_refl _⟩, ⟨bq0_ HB.out⟩⟩
   ·rw [if_neg c14] at H
    have c14b0 : (t379 == t380) = false := by simpa using c14
    (try (have c14b1 : decide (t379 = t380) = false := by simpa using c14))
    (try (have c14b2 : (t379 == t380) = false := by simpa using c14))
    (try (have c14b3 : ¬ (t379 = t380) := by simpa using c14))
    clear c14
    (first | rw [c14b0] | (simp only [i64_w, i32_w]; rw [c14b0]) | skip)
    have H' := Aside0.mk H
    clear H
    go_wp2_with (first | ((with_reducible refine gate_callee (f := 13) rfl ?_); refine gL_ (some 27) Try.func13 #[.slice A0 l0.length c0] ?_; (with_reducible refine (graph_Check.calls _ _ l0 t379 _ ?side1 ?side2 A12.out).mono ?_); (case side1 => exact mvC_ ((Kd.C_below HR0.out HB.out))); (case side2 => exact HC0.out); rintro e w33 ⟨rfl, hb⟩; refine ⟨_, rfl, ?_⟩; replace HO374 := Aside0.mk (Kd.R_below (mvR_ HO374.out) hb); replace HO377 := Aside0.mk (Kd.V_below (mvV_ HO377.out) hb); replace HB := Aside0.mk (below_step (bq0_ HB.out) hb); (try clear hb)) | ((with_reducible refine gate_callee (f := 14) rfl ?_); refine gL_ (some 29) Try.func14 #[.slice A0 l0.length c0] ?_; (with_reducible refine (fullerref10_Check.calls k _ _ l0 t380 _ ?side1 ?side2 A13.out).mono ?_); (case side1 => exact mvC_ ((Kd.C_below HR0.out HB.out))); (case side2 => exact HC0.out); rintro e w34 ⟨rfl, hb⟩; refine ⟨_, rfl, ?_⟩; replace HO374 := Aside0.mk (Kd.R_below (mvR_ HO374.out) hb); replace HO377 := Aside0.mk (Kd.V_below (mvV_ HO377.out) hb); replace HB := Aside0.mk (below_step (bq0_ HB.out) hb); (try clear hb)))
    go_meet
    case rel => exact ⟨_, (false), (by first | rfl | (simp; done) | (simp [*]; done)), H', ⟨by first | omega | exact Nat.le_refl _⟩, ⟨bq0_ HB.out⟩⟩
  case rest =>
   clear HC8
   try clear c1
   try clear p2
   try clear c3
   try clear c5
   try clear c9
   try clear c10
   try clear c11
   try clear c12
   try clear c13
   try clear c14
   try clear c14b0
   try clear c14b1
   try clear c14b2
   try clear c17
   try clear c17b0
   try clear c17b1
   try clear c19
   obtain ⟨kq, x10_7, rfl, HA, HJ7, HB⟩ := hcut
   cases kq with
   | zero => exact absurd HA.out (by simp [fullerlaw10_GraphTells.j0])
   | succ kj7 =>
    have H := HA.out
    clear HA
    simp only [fullerlaw10_GraphTells.j0] at H
    by_cases c35 : t369 = true
    ·subst c35
     have H1 : (if x10_7 = true then ((graph_Params.f kj7 l0).bind fun t384 => ((fullerref10_Params.f kj7 l0).bind fun t387 => ((fullerref02_Same.f kj7 t384 t387).bind fun t390 => (if t390 = true then ((graph_Uses.f kj7 l0 a1).bind fun t391 => ((fullerref10_Uses.f kj7 l0 a1).bind fun t394 => ((fullerref02_Same.f kj7 t391 t394).bind fun t397 => (if t397 = true then ((graph_Live.f l0).bind fun t398 => ((fullerref10_Live.f kj7 l0).bind fun t401 => ((fullerref02_Same.f kj7 t398 t401).bind fun t404 => (some t404)))) else (some false))))) else (some false))))) else (some false)) = some r := by rw [if_pos rfl] at H; exact H
     clear H
     have H := H1
     clear H1
     by_cases c36 : x10_7 = true
     ·subst c36
      have H1 : ((graph_Params.f kj7 l0).bind fun t384 => ((fullerref10_Params.f kj7 l0).bind fun t387 => ((fullerref02_Same.f kj7 t384 t387).bind fun t390 => (if t390 = true then ((graph_Uses.f kj7 l0 a1).bind fun t391 => ((fullerref10_Uses.f kj7 l0 a1).bind fun t394 => ((fullerref02_Same.f kj7 t391 t394).bind fun t397 => (if t397 = true then ((graph_Live.f l0).bind fun t398 => ((fullerref10_Live.f kj7 l0).bind fun t401 => ((fullerref02_Same.f kj7 t398 t401).bind fun t404 => (some t404)))) else (some false))))) else (some false))))) = some r := by rw [if_pos rfl] at H; exact H
      clear H
      have H := H1
      clear H1
      replace H := Option.bind_eq_some_iff.mp H
      obtain ⟨t384, A370, H⟩ := H
      replace H : ((fullerref10_Params.f kj7 l0).bind fun t387 => ((fullerref02_Same.f kj7 t384 t387).bind fun t390 => (if t390 = true then ((graph_Uses.f kj7 l0 a1).bind fun t391 => ((fullerref10_Uses.f kj7 l0 a1).bind fun t394 => ((fullerref02_Same.f kj7 t391 t394).bind fun t397 => (if t397 = true then ((graph_Live.f l0).bind fun t398 => ((fullerref10_Live.f kj7 l0).bind fun t401 => ((fullerref02_Same.f kj7 t398 t401).bind fun t404 => (some t404)))) else (some false))))) else (some false)))) = some r := H
      have A37 := Aside0.mk A370
      clear A370
      replace H := Option.bind_eq_some_iff.mp H
      obtain ⟨t387, A380, H⟩ := H
      replace H : ((fullerref02_Same.f kj7 t384 t387).bind fun t390 => (if t390 = true then ((graph_Uses.f kj7 l0 a1).bind fun t391 => ((fullerref10_Uses.f kj7 l0 a1).bind fun t394 => ((fullerref02_Same.f kj7 t391 t394).bind fun t397 => (if t397 = true then ((graph_Live.f l0).bind fun t398 => ((fullerref10_Live.f kj7 l0).bind fun t401 => ((fullerref02_Same.f kj7 t398 t401).bind fun t404 => (some t404)))) else (some false))))) else (some false))) = some r := H
      have A38 := Aside0.mk A380
      clear A380
      replace H := Option.bind_eq_some_iff.mp H
      obtain ⟨t390, A390, H⟩ := H
      replace H : (if t390 = true then ((graph_Uses.f kj7 l0 a1).bind fun t391 => ((fullerref10_Uses.f kj7 l0 a1).bind fun t394 => ((fullerref02_Same.f kj7 t391 t394).bind fun t397 => (if t397 = true then ((graph_Live.f l0).bind fun t398 => ((fullerref10_Live.f kj7 l0).bind fun t401 => ((fullerref02_Same.f kj7 t398 t401).bind fun t404 => (some t404)))) else (some false))))) else (some false)) = some r := H
      have A39 := Aside0.mk A390
      clear A390
      by_cases c40 : t390 = true
      ·subst c40
       have H1 : ((graph_Uses.f kj7 l0 a1).bind fun t391 => ((fullerref10_Uses.f kj7 l0 a1).bind fun t394 => ((fullerref02_Same.f kj7 t391 t394).bind fun t397 => (if t397 = true then ((graph_Live.f l0).bind fun t398 => ((fullerref10_Live.f kj7 l0).bind fun t401 => ((fullerref02_Same.f kj7 t398 t401).bind fun t404 => (some t404)))) else (some false))))) = some r := by rw [if_pos rfl] at H; exact H
       clear H
       have H := H1
       clear H1
       replace H := Option.bind_eq_some_iff.mp H
       obtain ⟨t391, A410, H⟩ := H
       replace H : ((fullerref10_Uses.f kj7 l0 a1).bind fun t394 => ((fullerref02_Same.f kj7 t391 t394).bind fun t397 => (if t397 = true then ((graph_Live.f l0).bind fun t398 => ((fullerref10_Live.f kj7 l0).bind fun t401 => ((fullerref02_Same.f kj7 t398 t401).bind fun t404 => (some t404)))) else (some false)))) = some r := H
       have A41 := Aside0.mk A410
       clear A410
       replace H := Option.bind_eq_some_iff.mp H
       obtain ⟨t394, A420, H⟩ := H
       replace H : ((fullerref02_Same.f kj7 t391 t394).bind fun t397 => (if t397 = true then ((graph_Live.f l0).bind fun t398 => ((fullerref10_Live.f kj7 l0).bind fun t401 => ((fullerref02_Same.f kj7 t398 t401).bind fun t404 => (some t404)))) else (some false))) = some r := H
       have A42 := Aside0.mk A420
       clear A420
       replace H := Option.bind_eq_some_iff.mp H
       obtain ⟨t397, A430, H⟩ := H
       replace H : (if t397 = true then ((graph_Live.f l0).bind fun t398 => ((fullerref10_Live.f kj7 l0).bind fun t401 => ((fullerref02_Same.f kj7 t398 t401).bind fun t404 => (some t404)))) else (some false)) = some r := H
       have A43 := Aside0.mk A430
       clear A430
       by_cases c44 : t397 = true
       ·subst c44
        have H1 : ((graph_Live.f l0).bind fun t398 => ((fullerref10_Live.f kj7 l0).bind fun t401 => ((fullerref02_Same.f kj7 t398 t401).bind fun t404 => (some t404)))) = some r := by rw [if_pos rfl] at H; exact H
        clear H
        have H := H1
        clear H1
        replace H := Option.bind_eq_some_iff.mp H
        obtain ⟨t398, A450, H⟩ := H
        replace H : ((fullerref10_Live.f kj7 l0).bind fun t401 => ((fullerref02_Same.f kj7 t398 t401).bind fun t404 => (some t404))) = some r := H
        have A45 := Aside0.mk A450
        clear A450
        replace H := Option.bind_eq_some_iff.mp H
        obtain ⟨t401, A460, H⟩ := H
        replace H : ((fullerref02_Same.f kj7 t398 t401).bind fun t404 => (some t404)) = some r := H
        have A46 := Aside0.mk A460
        clear A460
        replace H := Option.bind_eq_some_iff.mp H
        obtain ⟨t404, A470, H⟩ := H
        replace H : (some t404) = some r := H
        have A47 := Aside0.mk A470
        clear A470
        obtain rfl := Option.some.inj H
        go_wp2_with (first | (go_at_call 18; (with_reducible refine (graph_Params.calls kj7 _ _ l0 t384 _ ?side1 ?side2 A37.out).mono ?_); (case side1 => exact mvC_ ((Kd.C_below HR0.out HB.out))); (case side2 => exact HC0.out); rintro e w48 ⟨v385, rfl, ho0, hb⟩; have HO386 := Aside0.mk (Kd.R_lower ho0 (below_size (bq0_ HB.out))); replace HB := Aside0.mk (below_step (bq0_ HB.out) hb); (try clear hb); (try clear ho0)) | (go_at_call 19; (with_reducible refine (fullerref10_Params.calls kj7 _ _ l0 t387 _ ?side1 ?side2 A38.out).mono ?_); (case side1 => exact mvC_ ((Kd.C_below HR0.out HB.out))); (case side2 => exact HC0.out); rintro e w49 ⟨v388, rfl, ho0, hb⟩; have HO389 := Aside0.mk (Kd.R_lower (Kd.R_new' ho0 (Kd.R_lt (mvR_ HO386.out))) (below_size (bq0_ HB.out))); replace HO386 := Aside0.mk (Kd.R_elder' (mvR_ HO386.out) (Kd.R_base ho0) hb); replace HB := Aside0.mk (below_step (bq0_ HB.out) hb); (try clear hb); (try clear ho0); obtain ⟨Ao50, co50, eo50⟩ := Kd.R_slice HO386.out; subst eo50; obtain ⟨Ao51, co51, eo51⟩ := Kd.R_slice HO389.out; subst eo51) | (go_at_call 17; (with_reducible refine (fullerref02_Same.calls kj7 _ _ t384 _ _ t387 true _ ?side1 ?side2 ?side3 ?side4 A39.out).mono ?_); (case side1 => exact mvC_ ((Kd.R_reads' HO386.out).2.2)); (case side2 => exact (Kd.R_reads' HO386.out).2.1); (case side3 => exact mvC_ ((Kd.R_reads' HO389.out).2.2)); (case side4 => exact (Kd.R_reads' HO389.out).2.1); rintro e w' ⟨rfl, ⟨nd, rfl⟩⟩) | (go_at_call 20; (with_reducible refine (graph_Uses.calls kj7 _ _ l0 a1 t391 _ ?side1 ?side2 A41.out).mono ?_); (case side1 => repeat (first | exact (Kd.C_below HR0.out (bq0_ HB.out)) | (with_reducible refine Kd.C_alloc ?_ _) | (with_reducible refine Kd.C_drewN ?_ _) | (with_reducible refine Kd.C_drew ?_))); (case side2 => exact HC0.out); rintro e w52 ⟨v392, rfl, ho0, hb⟩; have HO393 := Aside0.mk (Kd.R_lower (Kd.R_new' (Kd.R_new' ho0 (Kd.R_lt (mvR_ HO386.out))) (Kd.R_lt (mvR_ HO389.out))) (below_size (bq0_ HB.out))); replace HO386 := Aside0.mk (Kd.R_elder' (mvR_ HO386.out) (Kd.R_base ho0) hb); replace HO389 := Aside0.mk (Kd.R_elder' (mvR_ HO389.out) (Kd.R_base ho0) hb); replace HB := Aside0.mk (below_step (bq0_ HB.out) hb); (try clear hb); (try clear ho0)) | (go_at_call 21; (with_reducible refine (fullerref10_Uses.calls kj7 _ _ l0 a1 t394 _ ?side1 ?side2 A42.out).mono ?_); (case side1 => exact mvC_ ((Kd.C_below HR0.out HB.out))); (case side2 => exact HC0.out); rintro e w53 ⟨v395, rfl, ho0, hb⟩; have HO396 := Aside0.mk (Kd.R_lower (Kd.R_new' (Kd.R_new' (Kd.R_new' ho0 (Kd.R_lt (mvR_ HO386.out))) (Kd.R_lt (mvR_ HO389.out))) (Kd.R_lt (mvR_ HO393.out))) (below_size (bq0_ HB.out))); replace HO386 := Aside0.mk (Kd.R_elder' (mvR_ HO386.out) (Kd.R_base ho0) hb); replace HO389 := Aside0.mk (Kd.R_elder' (mvR_ HO389.out) (Kd.R_base ho0) hb); replace HO393 := Aside0.mk (Kd.R_elder' (mvR_ HO393.out) (Kd.R_base ho0) hb); replace HB := Aside0.mk (below_step (bq0_ HB.out) hb); (try clear hb); (try clear ho0); obtain ⟨Ao54, co54, eo54⟩ := Kd.R_slice HO393.out; subst eo54; obtain ⟨Ao55, co55, eo55⟩ := Kd.R_slice HO396.out; subst eo55) | (go_at_call 17; (with_reducible refine (fullerref02_Same.calls kj7 _ _ t391 _ _ t394 true _ ?side1 ?side2 ?side3 ?side4 A43.out).mono ?_); (case side1 => exact mvC_ ((Kd.R_reads' HO393.out).2.2)); (case side2 => exact (Kd.R_reads' HO393.out).2.1); (case side3 => exact mvC_ ((Kd.R_reads' HO396.out).2.2)); (case side4 => exact (Kd.R_reads' HO396.out).2.1); rintro e w' ⟨rfl, ⟨nd, rfl⟩⟩) | (go_at_call 22; (with_reducible refine (graph_Live.calls _ _ l0 t398 _ ?side1 ?side2 A45.out).mono ?_); (case side1 => repeat (first | exact (Kd.C_below HR0.out (bq0_ HB.out)) | (with_reducible refine Kd.C_alloc ?_ _) | (with_reducible refine Kd.C_drewN ?_ _) | (with_reducible refine Kd.C_drew ?_))); (case side2 => exact HC0.out); rintro e w56 ⟨v399, rfl, ho0, hb⟩; have HO400 := Aside0.mk (Kd.R_lower (Kd.R_new' (Kd.R_new' (Kd.R_new' (Kd.R_new' ho0 (Kd.R_lt (mvR_ HO386.out))) (Kd.R_lt (mvR_ HO389.out))) (Kd.R_lt (mvR_ HO393.out))) (Kd.R_lt (mvR_ HO396.out))) (below_size (bq0_ HB.out))); replace HO386 := Aside0.mk (Kd.R_elder' (mvR_ HO386.out) (Kd.R_base ho0) hb); replace HO389 := Aside0.mk (Kd.R_elder' (mvR_ HO389.out) (Kd.R_base ho0) hb); replace HO393 := Aside0.mk (Kd.R_elder' (mvR_ HO393.out) (Kd.R_base ho0) hb); replace HO396 := Aside0.mk (Kd.R_elder' (mvR_ HO396.out) (Kd.R_base ho0) hb); replace HB := Aside0.mk (below_step (bq0_ HB.out) hb); (try clear hb); (try clear ho0)) | (go_at_call 23; (with_reducible refine (fullerref10_Live.calls kj7 _ _ l0 t401 _ ?side1 ?side2 A46.out).mono ?_); (case side1 => exact mvC_ ((Kd.C_below HR0.out HB.out))); (case side2 => exact HC0.out); rintro e w57 ⟨v402, rfl, ho0, hb⟩; have HO403 := Aside0.mk (Kd.R_lower (Kd.R_new' (Kd.R_new' (Kd.R_new' (Kd.R_new' (Kd.R_new' ho0 (Kd.R_lt (mvR_ HO386.out))) (Kd.R_lt (mvR_ HO389.out))) (Kd.R_lt (mvR_ HO393.out))) (Kd.R_lt (mvR_ HO396.out))) (Kd.R_lt (mvR_ HO400.out))) (below_size (bq0_ HB.out))); replace HO386 := Aside0.mk (Kd.R_elder' (mvR_ HO386.out) (Kd.R_base ho0) hb); replace HO389 := Aside0.mk (Kd.R_elder' (mvR_ HO389.out) (Kd.R_base ho0) hb); replace HO393 := Aside0.mk (Kd.R_elder' (mvR_ HO393.out) (Kd.R_base ho0) hb); replace HO396 := Aside0.mk (Kd.R_elder' (mvR_ HO396.out) (Kd.R_base ho0) hb); replace HO400 := Aside0.mk (Kd.R_elder' (mvR_ HO400.out) (Kd.R_base ho0) hb); replace HB := Aside0.mk (below_step (bq0_ HB.out) hb); (try clear hb); (try clear ho0); obtain ⟨Ao58, co58, eo58⟩ := Kd.R_slice HO400.out; subst eo58; obtain ⟨Ao59, co59, eo59⟩ := Kd.R_slice HO403.out; subst eo59) | (go_at_call 17; (with_reducible refine (fullerref02_Same.calls kj7 _ _ t398 _ _ t401 t404 _ ?side1 ?side2 ?side3 ?side4 A47.out).mono ?_); (case side1 => exact mvC_ ((Kd.R_reads' HO400.out).2.2)); (case side2 => exact (Kd.R_reads' HO400.out).2.1); (case side3 => exact mvC_ ((Kd.R_reads' HO403.out).2.2)); (case side4 => exact (Kd.R_reads' HO403.out).2.1); rintro e w' ⟨rfl, ⟨nd, rfl⟩⟩))
        go_ret
        exact ⟨by first | rfl | (simp <;> rfl) | (simp [*] <;> rfl), bq0_ HB.out⟩
       ·replace c44 := Bool.eq_false_iff.mpr c44
        subst c44
        have H1 : (some false) = some r := by rw [if_neg (show ¬ (false = true) by decide)] at H; exact H
        clear H
        have H := H1
        clear H1
        obtain rfl := Option.some.inj H
        go_wp2_with (first | (go_at_call 18; (with_reducible refine (graph_Params.calls kj7 _ _ l0 t384 _ ?side1 ?side2 A37.out).mono ?_); (case side1 => exact mvC_ ((Kd.C_below HR0.out HB.out))); (case side2 => exact HC0.out); rintro e w60 ⟨v385, rfl, ho0, hb⟩; have HO386 := Aside0.mk (Kd.R_lower ho0 (below_size (bq0_ HB.out))); replace HB := Aside0.mk (below_step (bq0_ HB.out) hb); (try clear hb); (try clear ho0)) | (go_at_call 19; (with_reducible refine (fullerref10_Params.calls kj7 _ _ l0 t387 _ ?side1 ?side2 A38.out).mono ?_); (case side1 => exact mvC_ ((Kd.C_below HR0.out HB.out))); (case side2 => exact HC0.out); rintro e w61 ⟨v388, rfl, ho0, hb⟩; have HO389 := Aside0.mk (Kd.R_lower (Kd.R_new' ho0 (Kd.R_lt (mvR_ HO386.out))) (below_size (bq0_ HB.out))); replace HO386 := Aside0.mk (Kd.R_elder' (mvR_ HO386.out) (Kd.R_base ho0) hb); replace HB := Aside0.mk (below_step (bq0_ HB.out) hb); (try clear hb); (try clear ho0); obtain ⟨Ao62, co62, eo62⟩ := Kd.R_slice HO386.out; subst eo62; obtain ⟨Ao63, co63, eo63⟩ := Kd.R_slice HO389.out; subst eo63) | (go_at_call 17; (with_reducible refine (fullerref02_Same.calls kj7 _ _ t384 _ _ t387 true _ ?side1 ?side2 ?side3 ?side4 A39.out).mono ?_); (case side1 => exact mvC_ ((Kd.R_reads' HO386.out).2.2)); (case side2 => exact (Kd.R_reads' HO386.out).2.1); (case side3 => exact mvC_ ((Kd.R_reads' HO389.out).2.2)); (case side4 => exact (Kd.R_reads' HO389.out).2.1); rintro e w' ⟨rfl, ⟨nd, rfl⟩⟩) | (go_at_call 20; (with_reducible refine (graph_Uses.calls kj7 _ _ l0 a1 t391 _ ?side1 ?side2 A41.out).mono ?_); (case side1 => repeat (first | exact (Kd.C_below HR0.out (bq0_ HB.out)) | (with_reducible refine Kd.C_alloc ?_ _) | (with_reducible refine Kd.C_drewN ?_ _) | (with_reducible refine Kd.C_drew ?_))); (case side2 => exact HC0.out); rintro e w64 ⟨v392, rfl, ho0, hb⟩; have HO393 := Aside0.mk (Kd.R_lower (Kd.R_new' (Kd.R_new' ho0 (Kd.R_lt (mvR_ HO386.out))) (Kd.R_lt (mvR_ HO389.out))) (below_size (bq0_ HB.out))); replace HO386 := Aside0.mk (Kd.R_elder' (mvR_ HO386.out) (Kd.R_base ho0) hb); replace HO389 := Aside0.mk (Kd.R_elder' (mvR_ HO389.out) (Kd.R_base ho0) hb); replace HB := Aside0.mk (below_step (bq0_ HB.out) hb); (try clear hb); (try clear ho0)) | (go_at_call 21; (with_reducible refine (fullerref10_Uses.calls kj7 _ _ l0 a1 t394 _ ?side1 ?side2 A42.out).mono ?_); (case side1 => exact mvC_ ((Kd.C_below HR0.out HB.out))); (case side2 => exact HC0.out); rintro e w65 ⟨v395, rfl, ho0, hb⟩; have HO396 := Aside0.mk (Kd.R_lower (Kd.R_new' (Kd.R_new' (Kd.R_new' ho0 (Kd.R_lt (mvR_ HO386.out))) (Kd.R_lt (mvR_ HO389.out))) (Kd.R_lt (mvR_ HO393.out))) (below_size (bq0_ HB.out))); replace HO386 := Aside0.mk (Kd.R_elder' (mvR_ HO386.out) (Kd.R_base ho0) hb); replace HO389 := Aside0.mk (Kd.R_elder' (mvR_ HO389.out) (Kd.R_base ho0) hb); replace HO393 := Aside0.mk (Kd.R_elder' (mvR_ HO393.out) (Kd.R_base ho0) hb); replace HB := Aside0.mk (below_step (bq0_ HB.out) hb); (try clear hb); (try clear ho0); obtain ⟨Ao66, co66, eo66⟩ := Kd.R_slice HO393.out; subst eo66; obtain ⟨Ao67, co67, eo67⟩ := Kd.R_slice HO396.out; subst eo67) | (go_at_call 17; (with_reducible refine (fullerref02_Same.calls kj7 _ _ t391 _ _ t394 false _ ?side1 ?side2 ?side3 ?side4 A43.out).mono ?_); (case side1 => exact mvC_ ((Kd.R_reads' HO393.out).2.2)); (case side2 => exact (Kd.R_reads' HO393.out).2.1); (case side3 => exact mvC_ ((Kd.R_reads' HO396.out).2.2)); (case side4 => exact (Kd.R_reads' HO396.out).2.1); rintro e w' ⟨rfl, ⟨nd, rfl⟩⟩))
        go_ret
        exact ⟨by first | rfl | (simp <;> rfl) | (simp [*] <;> rfl), bq0_ HB.out⟩
      ·replace c40 := Bool.eq_false_iff.mpr c40
       subst c40
       have H1 : (some false) = some r := by rw [if_neg (show ¬ (false = true) by decide)] at H; exact H
       clear H
       have H := H1
       clear H1
       obtain rfl := Option.some.inj H
       go_wp2_with (first | (go_at_call 18; (with_reducible refine (graph_Params.calls kj7 _ _ l0 t384 _ ?side1 ?side2 A37.out).mono ?_); (case side1 => exact mvC_ ((Kd.C_below HR0.out HB.out))); (case side2 => exact HC0.out); rintro e w68 ⟨v385, rfl, ho0, hb⟩; have HO386 := Aside0.mk (Kd.R_lower ho0 (below_size (bq0_ HB.out))); replace HB := Aside0.mk (below_step (bq0_ HB.out) hb); (try clear hb); (try clear ho0)) | (go_at_call 19; (with_reducible refine (fullerref10_Params.calls kj7 _ _ l0 t387 _ ?side1 ?side2 A38.out).mono ?_); (case side1 => exact mvC_ ((Kd.C_below HR0.out HB.out))); (case side2 => exact HC0.out); rintro e w69 ⟨v388, rfl, ho0, hb⟩; have HO389 := Aside0.mk (Kd.R_lower (Kd.R_new' ho0 (Kd.R_lt (mvR_ HO386.out))) (below_size (bq0_ HB.out))); replace HO386 := Aside0.mk (Kd.R_elder' (mvR_ HO386.out) (Kd.R_base ho0) hb); replace HB := Aside0.mk (below_step (bq0_ HB.out) hb); (try clear hb); (try clear ho0); obtain ⟨Ao70, co70, eo70⟩ := Kd.R_slice HO386.out; subst eo70; obtain ⟨Ao71, co71, eo71⟩ := Kd.R_slice HO389.out; subst eo71) | (go_at_call 17; (with_reducible refine (fullerref02_Same.calls kj7 _ _ t384 _ _ t387 false _ ?side1 ?side2 ?side3 ?side4 A39.out).mono ?_); (case side1 => exact mvC_ ((Kd.R_reads' HO386.out).2.2)); (case side2 => exact (Kd.R_reads' HO386.out).2.1); (case side3 => exact mvC_ ((Kd.R_reads' HO389.out).2.2)); (case side4 => exact (Kd.R_reads' HO389.out).2.1); rintro e w' ⟨rfl, ⟨nd, rfl⟩⟩))
       go_ret
       exact ⟨by first | rfl | (simp <;> rfl) | (simp [*] <;> rfl), bq0_ HB.out⟩
     ·replace c36 := Bool.eq_false_iff.mpr c36
      subst c36
      have H1 : (some false) = some r := by rw [if_neg (show ¬ (false = true) by decide)] at H; exact H
      clear H
      have H := H1
      clear H1
      obtain rfl := Option.some.inj H
      go_wp2
      go_ret
      exact ⟨by first | rfl | (simp <;> rfl) | (simp [*] <;> rfl), bq0_ HB.out⟩
    ·replace c35 := Bool.eq_false_iff.mpr c35
     subst c35
     have H1 : (some false) = some r := by rw [if_neg (show ¬ (false = true) by decide)] at H; exact H
     clear H
     have H := H1
     clear H1
     obtain rfl := Option.some.inj H
     go_wp2
     go_ret
     exact ⟨by first | rfl | (simp <;> rfl) | (simp [*] <;> rfl), bq0_ HB.out⟩
 ·replace c5 := Bool.eq_false_iff.mpr c5
  subst c5
  have H1 : (some t369) = some r := by rw [if_neg (show ¬ (false = true) by decide)] at H; exact H
  clear H
  have H := H1
  clear H1
  obtain rfl := Option.some.inj H
  go_enter Try.func3, Try.ntmps3
  go_wp2_with (first | ((with_reducible refine gate_callee (f := 9) rfl ?_); refine gL_ (some 11) Try.func9 #[] ?_; (with_reducible refine (fullerlaw10_awake.calls k  t369 _ A3.out).mono ?_); rintro e w72 ⟨rfl, hb⟩; refine ⟨_, rfl, ?_⟩; replace HB := Aside0.mk (below_step (bq0_ HB.out) hb); (try clear hb)) | ((with_reducible refine gate_callee (f := 10) rfl ?_); refine gL_ (some 13) Try.func10 #[.slice A0 l0.length c0] ?_; (with_reducible refine (fullerref10_Few.calls k _ _ l0 false _ ?side1 ?side2 A4.out).mono ?_); (case side1 => exact mvC_ ((Kd.C_below HR0.out HB.out))); (case side2 => exact HC0.out); rintro e w' ⟨rfl, ⟨nd, rfl⟩⟩; refine ⟨_, rfl, ?_⟩))
  go_ret
  exact ⟨by first | rfl | (simp <;> rfl) | (simp [*] <;> rfl), bq0_ HB.out⟩

/-- THE ONE PURE STATEMENT of fullerlaw10_GraphTells: yours. -/
def fullerlaw10_GraphTells.Pure : Prop := ∀ (l0 : List (S35)) (a1 : Int), (l0.length * 56 ≤ 140737488351232 ∧ ∀ x_ ∈ l0, OK35 x_) → ((Lit.int .i64 a1).wf = true) → ∃ k, fullerlaw10_GraphTells.f k l0 a1 = some true
theorem fullerlaw10_GraphTells.walk (P : fullerlaw10_GraphTells.Pure) (A0 : Option Addr) (c0 : Nat) (l0 : List (S35)) (a1 : Int) (w : World) (hr0 : Kd.C k35 w A0 l0.length l0) (hc0 : l0.length ≤ c0) (hg0 : l0.length * 56 ≤ 140737488351232 ∧ ∀ x_ ∈ l0, OK35 x_) (hg1 : (Lit.int .i64 a1).wf = true) :
  Calls Try.prog 3 #[.slice A0 l0.length c0, .int .i64 a1] w fun e w' => e = .returned (.bool true) ∧ Below w.heap.size w w' := by
 obtain ⟨k, h⟩ := P l0 a1 hg0 hg1
 refine (fullerlaw10_GraphTells.calls k _ _ l0 a1 true w hr0 hc0 h).mono ?_
 rintro e w' ⟨rfl, hd⟩
 exact ⟨rfl, hd⟩

-- NOT PRINTED: function 4 (fullerlaw10_GraphCuts)

end Go.Proofs.Ytklnbfdoklcmfaa.A
