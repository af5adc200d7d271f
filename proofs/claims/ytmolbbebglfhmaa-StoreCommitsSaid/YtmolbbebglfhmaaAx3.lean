/- Lean functions that answer as the Go functions do, and the proofs that they do; no conditions. Written by this session's own driver: a scratch copy of the kit's print with the session's additions (wip/xprint). -/
import Derived.Test.YtmolbbebglfhmaaAx0
import Derived.Test.YtmolbbebglfhmaaAx1
import Derived.Test.YtmolbbebglfhmaaAx2
namespace Go.Proofs.Ytmolbbebglfhmaa.A
open Go.RowKit Go.Proofs.YtmolbbebglfhmaaW.PrintWords Go.Proofs.YtmolbbebglfhmaaW.PrintLast Go.Proofs.YtmolbbebglfhmaaW.PrintMore
attribute [local go_sem] max2_int min2_int max_two min_two max_three min_three max_four min_four
set_option linter.unusedVariables false
set_option linter.unusedSimpArgs false
set_option maxHeartbeats 8000000 in
set_option maxRecDepth 100000 in
theorem api_Version_54.by_ (q : S74 → Bool) (g : Nat) (lb : Array Value) (A0 : Option Addr) (c0 : Nat) (l0 : List (S74)) (w : World) (hr0 : Kd.C k74 w A0 l0.length l0)
    (eg : ∀ args W, (callFunc g args).run Try.prog W = .ok (.enter g args) W)
    (hp : ∀ (W : World) (x : S74) (A1_ : Option Addr) (c1_ : Nat) (A2_ : Option Addr) (c2_ : Nat), x ∈ l0 → Below w.heap.size w W → x.f1.f0.length ≤ c1_ → Kd.C (Kd.int .i64) W A1_ x.f1.f0.length x.f1.f0 → x.f1.f1.length ≤ c2_ → Kd.C (Kd.int .i64) W A2_ x.f1.f1.length x.f1.f1 → Calls Try.prog g (#[.agg #[.int .i64 x.f0, .slice A1_ x.f1.f0.length c1_, .slice A2_ x.f1.f1.length c2_]] ++ lb) W fun e w' => e = .returned (.bool (q x)) ∧ Below W.heap.size W w') :
    Calls Try.prog 54 #[.slice A0 l0.length c0, .func (.func g) #[] lb] w fun e w' => e = .returned (.int .i64 (idxF q 0 l0)) ∧ Below w.heap.size w w' := by
  have HR := Aside0.mk hr0
  have hbig := hr0.2.1
  clear hr0
  go_enter Try.func54, Try.ntmps54
  go_wp2
  go_loopg [5, 8] l0.length (fun gg _ s8 wr => ∃ kk : Nat, kk ≤ l0.length ∧ l0.length - kk ≤ gg ∧ s8 = .int .i64 kk ∧ Aside0 (Below w.heap.size w wr) ∧ Aside0 (∀ (j : Nat) (y : S74), j < kk → l0[j]? = some y → q y = false))
  case atStart => exact ⟨0, Nat.zero_le _, by omega, rfl, ⟨Below.refl _ w⟩, ⟨fun j y hj => absurd hj (Nat.not_lt_zero _)⟩⟩
  case round =>
    obtain ⟨kk, hkk, hg, rfl, BW, AA⟩ := hrel
    by_cases hlt : kk < l0.length
    · have hltz : (kk : Int) < (l0.length : Int) := by omega
      obtain ⟨ad, A1_, c1_, A2_, c2_, rfl, hx0, hx1, hx2, hl1, hi1, hl2, hi2⟩ := at_T74 (Kd.C_below HR.out BW.out) (kk : Int) (by omega) hltz
      have hE := show l0[kk]? = some (rd_T74 l0 (kk : Int)) by simp [rd_T74, hlt]
      have hcall := hp wr (rd_T74 l0 (kk : Int)) A1_ c1_ A2_ c2_ (List.mem_of_getElem? hE) BW.out hl1 hi1 hl2 hi2
      have HE := Aside0.mk hE
      clear hp hE hl1 hi1 hl2 hi2
      (try simp only [Int.toNat_natCast] at hx0 hx1 hx2)
      generalize rd_T74 l0 (kk : Int) = y at hx0 hx1 hx2 hcall HE
      cases hq : q y with
      | true =>
        have HQ := Aside0.mk hq
        rw [hq] at hcall
        have HCALL := Aside0.mk hcall
        clear hq hcall
        go_wp2_with fail
        refine HCALL.out.mono ?_
        rintro e w' ⟨rfl, hb⟩
        have hb' := Aside0.mk hb
        clear hb HCALL
        go_wp2
        go_ret
        refine ⟨?_, below_step BW.out hb'.out⟩
        rw [idxF_hit q l0 0 kk y HE.out HQ.out AA.out, Nat.zero_add]
        rfl
      | false =>
        have HQ := Aside0.mk hq
        rw [hq] at hcall
        have HCALL := Aside0.mk hcall
        clear hq hcall
        go_wp2_with fail
        refine HCALL.out.mono ?_
        rintro e w' ⟨rfl, hb⟩
        have hb' := Aside0.mk hb
        clear hb HCALL
        go_wp2
        go_roundg (l0.length - (kk + 1))
        case measure => omega
        case rel =>
          refine ⟨kk + 1, by omega, by omega, by go_num, ⟨below_step BW.out hb'.out⟩, ⟨fun j z hj hz => ?_⟩⟩
          by_cases e : j = kk
          · subst e
            rw [HE.out] at hz
            cases hz
            exact HQ.out
          · exact AA.out j z (by omega) hz
    · have hltz : ¬ (kk : Int) < (l0.length : Int) := by omega
      have hkl : kk = l0.length := by omega
      have HK := Aside0.mk hkl
      clear hkl
      go_wp2
      go_ret
      refine ⟨?_, BW.out⟩
      rw [idxF_miss q l0 0 (fun j y hy => AA.out j y (by have := (List.getElem?_eq_some_iff.1 hy).1; have := HK.out; omega) hy)]
      rfl
set_option maxHeartbeats 8000000 in
set_option maxRecDepth 100000 in
theorem behind1 (s stamp : Int) (a b : Value) (p : Addr) (W : World) (hc : W.cell? p = some (.int .i64 stamp)) :
    Calls Try.prog 55 #[.agg #[.int .i64 s, a, b], .pointer (some p)] W fun e w' => e = .returned (.bool (decide (stamp < s))) ∧ Below W.heap.size W w' := by
  have hlt : p.block < W.heap.size := World.block_lt_of_cell? W p hc
  have hu41 := Try.underlying74
  go_enter Try.func55, Try.ntmps55
  go_wp2
  go_ret
  exact ⟨rfl, below_alloc (Below.refl _ _) _⟩
def chain_behind.f (l0 : List S74) (a1 : Int) : Option Int := some ((l0.takeWhile fun v => decide (v.f0 ≤ a1)).length : Int)
theorem behind_idx (l : List S74) (a1 : Int) : idxF (fun v => decide (a1 < v.f0)) 0 l = if (l.takeWhile fun v => decide (v.f0 ≤ a1)).length < l.length then (((l.takeWhile fun v => decide (v.f0 ≤ a1)).length : Nat) : Int) else -1 := by
  have e : (fun v : S74 => decide (v.f0 ≤ a1)) = fun v => !decide (a1 < v.f0) := by
    funext v
    by_cases h : v.f0 ≤ a1
    · rw [decide_eq_true h, decide_eq_false (by omega)]; rfl
    · rw [decide_eq_false h, decide_eq_true (by omega)]; rfl
  rw [idxF_take, Nat.zero_add, e]
set_option maxHeartbeats 8000000 in
set_option maxRecDepth 100000 in
theorem chain_behind.calls (A0 : Option Addr) (c0 : Nat) (l0 : List S74) (a1 : Int) (r : Int) (w : World) (hr0 : Kd.C k74 w A0 l0.length l0) (hc0 : l0.length ≤ c0) (h : chain_behind.f l0 a1 = some r) :
    Calls Try.prog 44 #[.slice A0 l0.length c0, .int .i64 a1] w fun e w' => e = .returned (.int .i64 r) ∧ Below w.heap.size w w' := by
  unfold chain_behind.f at h
  have h := Option.some.inj h
  have HR := Aside0.mk hr0
  have HH := Aside0.mk h
  have HI := Aside0.mk (behind_idx l0 a1)
  have HM : (l0.takeWhile fun v => decide (v.f0 ≤ a1)).length ≤ l0.length := (List.takeWhile_sublist _).length_le
  generalize (l0.takeWhile fun v => decide (v.f0 ≤ a1)).length = m at HI HH HM
  clear hr0 h hc0
  by_cases hm : m < l0.length
  · have hi : idxF (fun v => decide (a1 < v.f0)) 0 l0 = (m : Int) := by rw [HI.out, if_pos hm]
    have HX := Aside0.mk hi
    clear hi
    go_enter Try.func44, Try.ntmps44
    go_wp2_with (go_at_call 54; (with_reducible refine (api_Version_54.by_ (fun v => decide (a1 < v.f0)) 55 #[.pointer (some ⟨w.heap.size, 0, none⟩)] A0 c0 l0 _ ?s1 ?s2 ?s3).mono ?_); (case s1 => exact Kd.C_alloc HR.out _); (case s2 => exact enters_ Try.prog Try.func55 (by kernel_rfl) rfl); (case s3 => exact (fun W x A1 c1 A2 c2 _ hb _ _ _ _ => behind1 x.f0 a1 _ _ ⟨w.heap.size, 0, none⟩ W ((hb.cell (p := ⟨w.heap.size, 0, none⟩) (by simp)).trans (by rw [World.cell?_alloc_at _ _ _ _ rfl]; rfl)))); rintro e w' ⟨rfl, hb⟩; rw [HX.out]; have HB := Aside0.mk hb; clear hb)
    go_ret
    exact ⟨by rw [← HH.out]; rfl, below_step (below_alloc (Below.refl _ _) _) HB.out⟩
  · have hi : idxF (fun v => decide (a1 < v.f0)) 0 l0 = -1 := by rw [HI.out, if_neg hm]
    have HX := Aside0.mk hi
    have hml : m = l0.length := by omega
    have HML := Aside0.mk hml
    clear hi hml
    go_enter Try.func44, Try.ntmps44
    go_wp2_with (go_at_call 54; (with_reducible refine (api_Version_54.by_ (fun v => decide (a1 < v.f0)) 55 #[.pointer (some ⟨w.heap.size, 0, none⟩)] A0 c0 l0 _ ?s1 ?s2 ?s3).mono ?_); (case s1 => exact Kd.C_alloc HR.out _); (case s2 => exact enters_ Try.prog Try.func55 (by kernel_rfl) rfl); (case s3 => exact (fun W x A1 c1 A2 c2 _ hb _ _ _ _ => behind1 x.f0 a1 _ _ ⟨w.heap.size, 0, none⟩ W ((hb.cell (p := ⟨w.heap.size, 0, none⟩) (by simp)).trans (by rw [World.cell?_alloc_at _ _ _ _ rfl]; rfl)))); rintro e w' ⟨rfl, hb⟩; rw [HX.out]; have HB := Aside0.mk hb; clear hb)
    go_ret
    exact ⟨by rw [← HH.out, HML.out]; rfl, below_step (below_alloc (Below.refl _ _) _) HB.out⟩
def chain_Newer.f (k : Nat) (l0 : List (S74)) (a1 : Int) : Option (Bool) := (chain_Check.f k l0).bind fun t119 => (if t119 = true then ((chain_behind.f l0 a1).bind fun t120 => (some (decide (t120 < (l0.length : Int))))) else (some false))
theorem chain_Newer.mono : ∀ a0 a1 k, LeO (chain_Newer.f k a0 a1) (chain_Newer.f (k + 1) a0 a1) := by
  intro a0 a1 k
  unfold chain_Newer.f
  repeat' first
   | (with_reducible first | exact chain_Check.mono _ _ | exact LeO.refl _ | exact LeO.none _ | refine LeO.ite ?_ ?_ | refine LeO.bind ?_ (fun _ => ?_))
   | first | exact chain_Check.mono _ _ | exact LeO.none _ | refine LeO.ite ?_ ?_ | refine LeO.bind ?_ (fun _ => ?_)
set_option maxHeartbeats 8000000 in
set_option maxRecDepth 100000 in
theorem chain_Newer.calls (k : Nat) (A0 : Option Addr) (c0 : Nat) (l0 : List (S74)) (a1 : Int) (r : Bool) (w : World) (hr0 : Kd.C k74 w A0 l0.length l0) (hc0 : l0.length ≤ c0) (h : chain_Newer.f k l0 a1 = some r) :
    Calls Try.prog 27 #[.slice A0 l0.length c0, .int .i64 a1] w fun e w' => e = .returned (.bool r) ∧ Below w.heap.size w w' := by
  have HR0 := Aside0.mk hr0
  have HC0 := Aside0.mk hc0
  clear hr0 hc0
  have HB := Aside0.mk (Below.refl w.heap.size w)
  have H : ((chain_Check.f k l0).bind fun t119 => (if t119 = true then ((chain_behind.f l0 a1).bind fun t120 => (some (decide (t120 < (l0.length : Int))))) else (some false))) = some r := h
  clear h
  replace H := Option.bind_eq_some_iff.mp H
  obtain ⟨t119, A30, H⟩ := H
  replace H : (if t119 = true then ((chain_behind.f l0 a1).bind fun t120 => (some (decide (t120 < (l0.length : Int))))) else (some false)) = some r := H
  have A3 := Aside0.mk A30
  clear A30
  by_cases c4 : t119 = true
  · subst c4
    have H1 : ((chain_behind.f l0 a1).bind fun t120 => (some (decide (t120 < (l0.length : Int))))) = some r := by rw [if_pos rfl] at H; exact H
    clear H
    have H := H1
    clear H1
    replace H := Option.bind_eq_some_iff.mp H
    obtain ⟨t120, A50, H⟩ := H
    replace H : (some (decide (t120 < (l0.length : Int)))) = some r := H
    have A5 := Aside0.mk A50
    clear A50
    obtain rfl := Option.some.inj H
    go_enter Try.func27, Try.ntmps27
    go_wp2_with (first | ((with_reducible refine gate_callee (f := 26) rfl ?_); refine goesL_ (some 6) rfl rfl Try.func26 (by kernel_rfl) rfl #[.slice A0 l0.length c0] rfl (by (try simp only [List.map_toArray, List.map_cons, List.map_nil]); first | done | rfl | (simp only [List.length_drop, List.length_take]; rfl)) ?_; (with_reducible refine (chain_Check.calls k _ _ l0 true _ ?side1 ?side2 A3.out).mono ?_); (case side1 => repeat (first | exact HR0.out | (with_reducible refine Kd.C_alloc ?_ _) | (with_reducible refine Kd.C_drewN ?_ _) | (with_reducible refine Kd.C_drew ?_))); (case side2 => exact HC0.out); rintro e w6 ⟨rfl, hb⟩; refine ⟨_, rfl, ?_⟩; have n0_ := Aside0.mk (below_step (by repeat (first | (with_reducible first | exact HB.out | apply below_alloc | apply pw_below_drewN | apply below_drew1) | exact HB.out)) hb); clear HB; have HB := n0_; clear n0_; (try clear hb); (try clear hb2); (try clear hk); (try clear hi)) | (go_at_call 44; (with_reducible refine (chain_behind.calls _ _ l0 a1 t120 _ ?side1 ?side2 A5.out).mono ?_); (case side1 => repeat (first | exact (Kd.C_below HR0.out HB.out) | (with_reducible refine Kd.C_alloc ?_ _) | (with_reducible refine Kd.C_drewN ?_ _) | (with_reducible refine Kd.C_drew ?_))); (case side2 => exact HC0.out); rintro e w7 ⟨rfl, hb⟩; have n0_ := Aside0.mk (below_step (by repeat (first | (with_reducible first | exact HB.out | apply below_alloc | apply pw_below_drewN | apply below_drew1) | exact HB.out)) hb); clear HB; have HB := n0_; clear n0_; (try clear hb); (try clear hb2); (try clear hk); (try clear hi)))
    go_ret
    exact ⟨by first | rfl | (simp [errW_none, errW_some] <;> rfl) | (simp [*, errW_none, errW_some] <;> rfl), by repeat (first | (with_reducible first | exact HB.out | apply below_alloc | apply pw_below_drewN | apply below_drew1) | exact HB.out)⟩
  · replace c4 := Bool.eq_false_iff.mpr c4
    subst c4
    have H1 : (some false) = some r := by rw [if_neg (show ¬ (false = true) by decide)] at H; exact H
    clear H
    have H := H1
    clear H1
    obtain rfl := Option.some.inj H
    go_enter Try.func27, Try.ntmps27
    go_wp2_with (first | ((with_reducible refine gate_callee (f := 26) rfl ?_); refine goesL_ (some 6) rfl rfl Try.func26 (by kernel_rfl) rfl #[.slice A0 l0.length c0] rfl (by (try simp only [List.map_toArray, List.map_cons, List.map_nil]); first | done | rfl | (simp only [List.length_drop, List.length_take]; rfl)) ?_; (with_reducible refine (chain_Check.calls k _ _ l0 false _ ?side1 ?side2 A3.out).mono ?_); (case side1 => repeat (first | exact HR0.out | (with_reducible refine Kd.C_alloc ?_ _) | (with_reducible refine Kd.C_drewN ?_ _) | (with_reducible refine Kd.C_drew ?_))); (case side2 => exact HC0.out); rintro e w8 ⟨rfl, hb⟩; refine ⟨_, rfl, ?_⟩; have n0_ := Aside0.mk (below_step (by repeat (first | (with_reducible first | exact HB.out | apply below_alloc | apply pw_below_drewN | apply below_drew1) | exact HB.out)) hb); clear HB; have HB := n0_; clear n0_; (try clear hb); (try clear hb2); (try clear hk); (try clear hi)))
    go_ret
    exact ⟨by first | rfl | (simp [errW_none, errW_some] <;> rfl) | (simp [*, errW_none, errW_some] <;> rfl), by repeat (first | (with_reducible first | exact HB.out | apply below_alloc | apply pw_below_drewN | apply below_drew1) | exact HB.out)⟩
set_option maxHeartbeats 8000000 in
set_option maxRecDepth 100000 in
theorem api_Version_45.by_ (q : List (S74) → Bool) (g : Nat) (lb : Array Value) (A0 : Option Addr) (c0 : Nat) (l0 : List (List (S74))) (w : World) (hr0 : Kd.C (Kd.slice 74 k74) w A0 l0.length l0)
    (eg : ∀ args W, (callFunc g args).run Try.prog W = .ok (.enter g args) W)
    (hp : ∀ (W : World) (x : List (S74)) (A0_ : Option Addr) (c0_ : Nat), x ∈ l0 → Below w.heap.size w W → x.length ≤ c0_ → Kd.C k74 W A0_ x.length x → Calls Try.prog g (#[.slice A0_ x.length c0_] ++ lb) W fun e w' => e = .returned (.bool (q x)) ∧ Below W.heap.size W w') :
    Calls Try.prog 45 #[.slice A0 l0.length c0, .func (.func g) #[] lb] w fun e w' => e = .returned (.int .i64 (idxF q 0 l0)) ∧ Below w.heap.size w w' := by
  have HR := Aside0.mk hr0
  have hbig := hr0.2.1
  clear hr0
  go_enter Try.func45, Try.ntmps45
  go_wp2
  go_loopg [5, 8] l0.length (fun gg _ s8 wr => ∃ kk : Nat, kk ≤ l0.length ∧ l0.length - kk ≤ gg ∧ s8 = .int .i64 kk ∧ Aside0 (Below w.heap.size w wr) ∧ Aside0 (∀ (j : Nat) (y : List (S74)), j < kk → l0[j]? = some y → q y = false))
  case atStart => exact ⟨0, Nat.zero_le _, by omega, rfl, ⟨Below.refl _ w⟩, ⟨fun j y hj => absurd hj (Nat.not_lt_zero _)⟩⟩
  case round =>
    obtain ⟨kk, hkk, hg, rfl, BW, AA⟩ := hrel
    by_cases hlt : kk < l0.length
    · have hltz : (kk : Int) < (l0.length : Int) := by omega
      obtain ⟨ad, A0_, c0_, rfl, hx0, hl0, hi0⟩ := at_L4 (Kd.C_below HR.out BW.out) (kk : Int) (by omega) hltz
      have hE := show l0[kk]? = some (rd_L4 l0 (kk : Int)) by simp [rd_L4, hlt]
      have hcall := hp wr (rd_L4 l0 (kk : Int)) A0_ c0_ (List.mem_of_getElem? hE) BW.out hl0 hi0
      have HE := Aside0.mk hE
      clear hp hE hl0 hi0
      (try simp only [Int.toNat_natCast] at hx0)
      generalize rd_L4 l0 (kk : Int) = y at hx0 hcall HE
      cases hq : q y with
      | true =>
        have HQ := Aside0.mk hq
        rw [hq] at hcall
        have HCALL := Aside0.mk hcall
        clear hq hcall
        go_wp2_with fail
        refine HCALL.out.mono ?_
        rintro e w' ⟨rfl, hb⟩
        have hb' := Aside0.mk hb
        clear hb HCALL
        go_wp2
        go_ret
        refine ⟨?_, below_step BW.out hb'.out⟩
        rw [idxF_hit q l0 0 kk y HE.out HQ.out AA.out, Nat.zero_add]
        rfl
      | false =>
        have HQ := Aside0.mk hq
        rw [hq] at hcall
        have HCALL := Aside0.mk hcall
        clear hq hcall
        go_wp2_with fail
        refine HCALL.out.mono ?_
        rintro e w' ⟨rfl, hb⟩
        have hb' := Aside0.mk hb
        clear hb HCALL
        go_wp2
        go_roundg (l0.length - (kk + 1))
        case measure => omega
        case rel =>
          refine ⟨kk + 1, by omega, by omega, by go_num, ⟨below_step BW.out hb'.out⟩, ⟨fun j z hj hz => ?_⟩⟩
          by_cases e : j = kk
          · subst e
            rw [HE.out] at hz
            cases hz
            exact HQ.out
          · exact AA.out j z (by omega) hz
    · have hltz : ¬ (kk : Int) < (l0.length : Int) := by omega
      have hkl : kk = l0.length := by omega
      have HK := Aside0.mk hkl
      clear hkl
      go_wp2
      go_ret
      refine ⟨?_, BW.out⟩
      rw [idxF_miss q l0 0 (fun j y hy => AA.out j y (by have := (List.getElem?_eq_some_iff.1 hy).1; have := HK.out; omega) hy)]
      rfl
set_option maxHeartbeats 8000000 in
set_option maxRecDepth 100000 in
theorem api_Version_29.by_ (q : List (S74) → Bool) (g : Nat) (lb : Array Value) (A0 : Option Addr) (c0 : Nat) (l0 : List (List (S74))) (w : World) (hr0 : Kd.C (Kd.slice 74 k74) w A0 l0.length l0)
    (eg : ∀ args W, (callFunc g args).run Try.prog W = .ok (.enter g args) W)
    (hp : ∀ (W : World) (x : List (S74)) (A0_ : Option Addr) (c0_ : Nat), x ∈ l0 → Below w.heap.size w W → x.length ≤ c0_ → Kd.C k74 W A0_ x.length x → Calls Try.prog g (#[.slice A0_ x.length c0_] ++ lb) W fun e w' => e = .returned (.bool (q x)) ∧ Below W.heap.size W w') :
    Calls Try.prog 29 #[.slice A0 l0.length c0, .func (.func g) #[] lb] w fun e w' => e = .returned (.bool (l0.any q)) ∧ Below w.heap.size w w' := by
  have HR := Aside0.mk hr0
  have HP := Aside0.mk hp
  have HA := Aside0.mk (idxF_any q l0 0)
  clear hr0 hp
  go_enter Try.func29, Try.ntmps29
  go_wp2_with (go_at_call 45; (with_reducible refine (api_Version_45.by_ q g lb A0 c0 l0 _ HR.out eg HP.out).mono ?_); rintro e w' ⟨rfl, hb⟩; have HB := Aside0.mk hb; clear hb)
  go_ret
  exact ⟨by rw [← HA.out]; rfl, HB.out⟩
set_option maxHeartbeats 8000000 in
set_option maxRecDepth 100000 in
theorem slices_IndexFunc_int_int.by_ (q : Int → Bool) (g : Nat) (lb : Array Value) (A0 : Option Addr) (c0 : Nat) (l0 : List (Int)) (w : World) (hr0 : Kd.C (Kd.int .i64) w A0 l0.length l0)
    (eg : ∀ args W, (callFunc g args).run Try.prog W = .ok (.enter g args) W)
    (hp : ∀ (W : World) (x : Int), x ∈ l0 → Below w.heap.size w W → Calls Try.prog g (#[.int .i64 x] ++ lb) W fun e w' => e = .returned (.bool (q x)) ∧ Below W.heap.size W w') :
    Calls Try.prog 46 #[.slice A0 l0.length c0, .func (.func g) #[] lb] w fun e w' => e = .returned (.int .i64 (idxF q 0 l0)) ∧ Below w.heap.size w w' := by
  have HR := Aside0.mk hr0
  have hbig := hr0.2.1
  clear hr0
  go_enter Try.func46, Try.ntmps46
  go_wp2
  go_loopg [5, 8] l0.length (fun gg _ s8 wr => ∃ kk : Nat, kk ≤ l0.length ∧ l0.length - kk ≤ gg ∧ s8 = .int .i64 kk ∧ Aside0 (Below w.heap.size w wr) ∧ Aside0 (∀ (j : Nat) (y : Int), j < kk → l0[j]? = some y → q y = false))
  case atStart => exact ⟨0, Nat.zero_le _, by omega, rfl, ⟨Below.refl _ w⟩, ⟨fun j y hj => absurd hj (Nat.not_lt_zero _)⟩⟩
  case round =>
    obtain ⟨kk, hkk, hg, rfl, BW, AA⟩ := hrel
    by_cases hlt : kk < l0.length
    · have hltz : (kk : Int) < (l0.length : Int) := by omega
      obtain ⟨ad, rfl, hx0⟩ := Kd.at_int (Kd.C_below HR.out BW.out) (kk : Int) (by omega) hltz
      have hE := show l0[kk]? = some (rd l0 (kk : Int)) by simp [rd, hlt]
      have hcall := hp wr (rd l0 (kk : Int)) (List.mem_of_getElem? hE) BW.out
      have HE := Aside0.mk hE
      clear hp hE
      (try simp only [Int.toNat_natCast] at hx0)
      generalize rd l0 (kk : Int) = y at hx0 hcall HE
      cases hq : q y with
      | true =>
        have HQ := Aside0.mk hq
        rw [hq] at hcall
        have HCALL := Aside0.mk hcall
        clear hq hcall
        go_wp2_with fail
        refine HCALL.out.mono ?_
        rintro e w' ⟨rfl, hb⟩
        have hb' := Aside0.mk hb
        clear hb HCALL
        go_wp2
        go_ret
        refine ⟨?_, below_step BW.out hb'.out⟩
        rw [idxF_hit q l0 0 kk y HE.out HQ.out AA.out, Nat.zero_add]
        rfl
      | false =>
        have HQ := Aside0.mk hq
        rw [hq] at hcall
        have HCALL := Aside0.mk hcall
        clear hq hcall
        go_wp2_with fail
        refine HCALL.out.mono ?_
        rintro e w' ⟨rfl, hb⟩
        have hb' := Aside0.mk hb
        clear hb HCALL
        go_wp2
        go_roundg (l0.length - (kk + 1))
        case measure => omega
        case rel =>
          refine ⟨kk + 1, by omega, by omega, by go_num, ⟨below_step BW.out hb'.out⟩, ⟨fun j z hj hz => ?_⟩⟩
          by_cases e : j = kk
          · subst e
            rw [HE.out] at hz
            cases hz
            exact HQ.out
          · exact AA.out j z (by omega) hz
    · have hltz : ¬ (kk : Int) < (l0.length : Int) := by omega
      have hkl : kk = l0.length := by omega
      have HK := Aside0.mk hkl
      clear hkl
      go_wp2
      go_ret
      refine ⟨?_, BW.out⟩
      rw [idxF_miss q l0 0 (fun j y hy => AA.out j y (by have := (List.getElem?_eq_some_iff.1 hy).1; have := HK.out; omega) hy)]
      rfl
set_option maxHeartbeats 8000000 in
set_option maxRecDepth 100000 in
theorem slices_ContainsFunc_int_int.by_ (q : Int → Bool) (g : Nat) (lb : Array Value) (A0 : Option Addr) (c0 : Nat) (l0 : List (Int)) (w : World) (hr0 : Kd.C (Kd.int .i64) w A0 l0.length l0)
    (eg : ∀ args W, (callFunc g args).run Try.prog W = .ok (.enter g args) W)
    (hp : ∀ (W : World) (x : Int), x ∈ l0 → Below w.heap.size w W → Calls Try.prog g (#[.int .i64 x] ++ lb) W fun e w' => e = .returned (.bool (q x)) ∧ Below W.heap.size W w') :
    Calls Try.prog 30 #[.slice A0 l0.length c0, .func (.func g) #[] lb] w fun e w' => e = .returned (.bool (l0.any q)) ∧ Below w.heap.size w w' := by
  have HR := Aside0.mk hr0
  have HP := Aside0.mk hp
  have HA := Aside0.mk (idxF_any q l0 0)
  clear hr0 hp
  go_enter Try.func30, Try.ntmps30
  go_wp2_with (go_at_call 46; (with_reducible refine (slices_IndexFunc_int_int.by_ q g lb A0 c0 l0 _ HR.out eg HP.out).mono ?_); rintro e w' ⟨rfl, hb⟩; have HB := Aside0.mk hb; clear hb)
  go_ret
  exact ⟨by rw [← HA.out]; rfl, HB.out⟩
def wrongF (k : Nat) (now : Int) (l : List S74) : Option Bool := (chain_Check.f k l).bind fun b => if b = true then chain_Newer.f k l now else some true
def wrongs (k : Nat) (now : Int) : List (List S74) → Option Bool
  | [] => some false
  | l :: r => (wrongF k now l).bind fun b => (wrongs k now r).bind fun c => some (b || c)
def store_Check.f (k : Nat) (l0_0 : List (List S74)) (a0_1 : Int) (l0_2 : List Int) : Option Bool :=
  if l0_0.length = 8 then if 0 ≤ a0_1 then if a0_1 ≤ 1099511627776 then if l0_2.length ≤ 64 then (slices_IsSorted_int_int.f k l0_2).bind fun s => if s = true then (wrongs k a0_1 l0_0).bind fun b => some (!b && !(l0_2.any fun p => decide (p < 0) || decide (a0_1 < p))) else some false
  else some false else some false else some false else some false
theorem wrongF_mono (now : Int) (l : List S74) (k : Nat) : LeO (wrongF k now l) (wrongF (k + 1) now l) := by
  unfold wrongF
  refine LeO.bind (chain_Check.mono _ _) (fun b => ?_)
  exact LeO.ite (chain_Newer.mono _ _ _) (LeO.refl _)
theorem wrongs_mono (now : Int) (k : Nat) : ∀ l : List (List S74), LeO (wrongs k now l) (wrongs (k + 1) now l)
  | [] => LeO.refl _
  | l :: r => LeO.bind (wrongF_mono now l k) (fun _ => LeO.bind (wrongs_mono now k r) (fun _ => LeO.refl _))
theorem store_Check.mono : ∀ a0 a1 a2 k, LeO (store_Check.f k a0 a1 a2) (store_Check.f (k + 1) a0 a1 a2) := by
  intro a0 a1 a2 k
  unfold store_Check.f
  repeat' first
    | exact slices_IsSorted_int_int.mono _ _
    | exact wrongs_mono _ _ _
    | exact LeO.refl _
    | refine LeO.ite ?_ ?_
    | refine LeO.bind ?_ (fun _ => ?_)
theorem wrongs_any (k : Nat) (now : Int) : ∀ (C : List (List S74)) (b : Bool), wrongs k now C = some b → (∀ x ∈ C, wrongF k now x = some ((wrongF k now x).getD false)) ∧ b = C.any fun x => (wrongF k now x).getD false
  | [], b, h => by
    injection h with h
    subst h
    exact ⟨by simp, rfl⟩
  | x :: r, b, h => by
    obtain ⟨b1, h1, h⟩ := Option.bind_eq_some_iff.mp h
    obtain ⟨b2, h2, h⟩ := Option.bind_eq_some_iff.mp h
    injection h with h
    obtain ⟨i1, i2⟩ := wrongs_any k now r b2 h2
    refine ⟨fun y hy => ?_, ?_⟩
    · rcases List.mem_cons.mp hy with rfl | hy
      · rw [h1]; rfl
      · exact i1 y hy
    · rw [List.any_cons, h1, ← i2, ← h]
      rfl
set_option maxHeartbeats 8000000 in
set_option maxRecDepth 100000 in
theorem store_Check1 (k : Nat) (now : Int) (A : Option Addr) (c : Nat) (x : List S74) (b : Bool) (h : wrongF k now x = some b) (g : Nat) (W : World) (hc : W.cell? ⟨g, 1, none⟩ = some (.int .i64 now)) (hl : x.length ≤ c) (hC : Kd.C k74 W A x.length x) :
    Calls Try.prog 25 #[.slice A x.length c, .pointer (some ⟨g, 0, none⟩)] W fun e w' => e = .returned (.bool b) ∧ Below W.heap.size W w' := by
  have hu25 := Try.underlying25
  unfold wrongF at h
  obtain ⟨b1, h1, h⟩ := Option.bind_eq_some_iff.mp h
  have H1 := Aside0.mk h1
  have HC := Aside0.mk hC
  have HL := Aside0.mk hl
  have HX := Aside0.mk hc
  clear h1 hC hl hc
  cases b1 with
  | false =>
    rw [if_neg (by decide)] at h
    injection h with h
    subst h
    go_enter Try.func25, Try.ntmps25
    go_wp2_with (go_at_call 26; refine (chain_Check.calls k A c x false _ HC.out HL.out H1.out).mono ?_; rintro e w1 ⟨rfl, hb⟩; have HB := Aside0.mk hb; clear hb)
    go_ret
    exact ⟨rfl, HB.out⟩
  | true =>
    rw [if_pos rfl] at h
    have H2 := Aside0.mk h
    clear h
    go_enter Try.func25, Try.ntmps25
    go_wp2_with (first | (go_at_call 26; refine (chain_Check.calls k A c x true _ HC.out HL.out H1.out).mono ?_; rintro e w1 ⟨rfl, hb⟩; have HB := Aside0.mk hb; have hx1 := pw_cell_below hb HX.out; clear hb) | (go_at_call 27; refine (chain_Newer.calls k A c x now b _ (Kd.C_below HC.out HB.out) HL.out H2.out).mono ?_; rintro e w2 ⟨rfl, hb⟩; have HB2 := Aside0.mk (below_step HB.out hb); clear hb))
    go_ret
    exact ⟨rfl, HB2.out⟩
set_option maxHeartbeats 8000000 in
set_option maxRecDepth 100000 in
theorem store_Check2 (now n : Int) (g : Nat) (W : World) (hc : W.cell? ⟨g, 1, none⟩ = some (.int .i64 now)) :
    Calls Try.prog 28 #[.int .i64 n, .pointer (some ⟨g, 0, none⟩)] W fun e w' => e = .returned (.bool (decide (n < 0) || decide (now < n))) ∧ Below W.heap.size W w' := by
  have hu25 := Try.underlying25
  by_cases h : n < 0
  · have b0 : decide (n < 0) = true := decide_eq_true h
    rw [b0]
    clear h
    go_enter Try.func28, Try.ntmps28
    go_wp2
    go_ret
    exact ⟨rfl, Below.refl _ _⟩
  · have b0 : decide (n < 0) = false := decide_eq_false h
    rw [b0]
    clear h
    go_enter Try.func28, Try.ntmps28
    go_wp2
    go_ret
    exact ⟨rfl, Below.refl _ _⟩
set_option maxHeartbeats 8000000 in
set_option maxRecDepth 100000 in
theorem store_Check.calls (k : Nat) (A0_0 : Option Addr) (c0_0 : Nat) (l0_0 : List (List S74)) (a0_1 : Int) (A0_2 : Option Addr) (c0_2 : Nat) (l0_2 : List Int) (r : Bool) (w : World) (hr0_0 : Kd.C (Kd.slice 74 k74) w A0_0 l0_0.length l0_0) (hc0_0 : l0_0.length ≤ c0_0) (hr0_2 : Kd.C (Kd.int .i64) w A0_2 l0_2.length l0_2) (hc0_2 : l0_2.length ≤ c0_2) (h : store_Check.f k l0_0 a0_1 l0_2 = some r) :
    Calls Try.prog 9 #[.agg #[.slice A0_0 l0_0.length c0_0, .int .i64 a0_1, .slice A0_2 l0_2.length c0_2]] w fun e w' => e = .returned (.bool r) ∧ Below w.heap.size w w' := by
  have hu25 := Try.underlying25
  unfold store_Check.f at h
  have HR0 := Aside0.mk hr0_0
  have HC0 := Aside0.mk hc0_0
  have HR2 := Aside0.mk hr0_2
  have HC2 := Aside0.mk hc0_2
  clear hr0_0 hc0_0 hr0_2 hc0_2
  by_cases c1 : l0_0.length = 8
  · rw [if_pos c1] at h
    have b1 : ((l0_0.length : Int) == 8) = true := beq_iff_eq.mpr (by omega)
    have b1' : ((l0_0.length : Int) != 8) = false := by simp [bne, b1]
    have b1n : (l0_0.length == 8) = true := beq_iff_eq.mpr c1
    by_cases c2 : 0 ≤ a0_1
    · rw [if_pos c2] at h
      have b2 : decide (a0_1 < 0) = false := decide_eq_false (by omega)
      by_cases c3 : a0_1 ≤ 1099511627776
      · rw [if_pos c3] at h
        have b3 : decide (1099511627776 < a0_1) = false := decide_eq_false (by omega)
        by_cases c4 : l0_2.length ≤ 64
        · rw [if_pos c4] at h
          have b4 : decide (64 < (l0_2.length : Int)) = false := decide_eq_false (by omega)
          have b4' : decide (64 < l0_2.length) = false := decide_eq_false (by omega)
          obtain ⟨s, hs, h⟩ := Option.bind_eq_some_iff.mp h
          have HS := Aside0.mk hs
          clear hs c1 c2 c3 c4
          cases s with
          | false =>
            rw [if_neg (by decide)] at h
            injection h with h
            subst h
            go_enter Try.func9, Try.ntmps9
            go_wp2_with (go_at_call 24; refine (slices_IsSorted_int_int.calls k A0_2 c0_2 l0_2 false _ (Kd.C_alloc HR2.out _) HC2.out HS.out).mono ?_; rintro e w1 ⟨rfl, hd⟩; have HD := Aside0.mk hd; clear hd)
            go_ret
            exact ⟨rfl, below_step (below_alloc (Below.refl _ _) _) HD.out⟩
          | true =>
            rw [if_pos rfl] at h
            obtain ⟨b, hb, h⟩ := Option.bind_eq_some_iff.mp h
            obtain ⟨hq1, hq2⟩ := wrongs_any k a0_1 l0_0 b hb
            have HQ := Aside0.mk hq1
            have HQ2 := Aside0.mk hq2
            injection h with h
            have HH := Aside0.mk h
            clear hb hq1 hq2 h
            have cell : ∀ W : World, Below (w.alloc (.cells #[.slice A0_0 l0_0.length c0_0, .int .i64 a0_1, .slice A0_2 l0_2.length c0_2] 25)).heap.size (w.alloc (.cells #[.slice A0_0 l0_0.length c0_0, .int .i64 a0_1, .slice A0_2 l0_2.length c0_2] 25)) W → W.cell? ⟨w.heap.size, 0, none⟩ = some (.slice A0_0 l0_0.length c0_0) ∧ W.cell? ⟨w.heap.size, 1, none⟩ = some (.int .i64 a0_1) ∧ W.cell? ⟨w.heap.size, 2, none⟩ = some (.slice A0_2 l0_2.length c0_2) := by
              intro W hW
              refine ⟨?_, ?_, ?_⟩
              · refine (hW.cell (p := ⟨w.heap.size, 0, none⟩) (by simp)).trans ?_
                rw [World.cell?_alloc_at _ _ _ _ rfl]
                rfl
              · refine (hW.cell (p := ⟨w.heap.size, 1, none⟩) (by simp)).trans ?_
                rw [World.cell?_alloc_at _ _ _ _ rfl]
                rfl
              · refine (hW.cell (p := ⟨w.heap.size, 2, none⟩) (by simp)).trans ?_
                rw [World.cell?_alloc_at _ _ _ _ rfl]
                rfl
            have HCell := Aside0.mk cell
            clear cell
            have fin : ∀ W : World, Below (w.alloc (.cells #[.slice A0_0 l0_0.length c0_0, .int .i64 a0_1, .slice A0_2 l0_2.length c0_2] 25)).heap.size (w.alloc (.cells #[.slice A0_0 l0_0.length c0_0, .int .i64 a0_1, .slice A0_2 l0_2.length c0_2] 25)) W → Below w.heap.size w W := fun W hW => below_step (below_alloc (Below.refl _ _) _) hW
            have HF := Aside0.mk fin
            clear fin
            cases b with
            | true =>
              have hr : r = false := by rw [← HH.out]; rfl
              subst hr
              clear HH
              go_enter Try.func9, Try.ntmps9
              go_wp2_with (first | (go_at_call 24; refine (slices_IsSorted_int_int.calls k A0_2 c0_2 l0_2 true _ (Kd.C_alloc HR2.out _) HC2.out HS.out).mono ?_; rintro e w1 ⟨rfl, hd⟩; have HB1 := Aside0.mk hd; obtain ⟨z0, z1, z2⟩ := HCell.out _ hd; clear hd) | (go_at_call 29; (with_reducible refine (api_Version_29.by_ (fun x => (wrongF k a0_1 x).getD false) 25 #[.pointer (some ⟨w.heap.size, 0, none⟩)] A0_0 c0_0 l0_0 _ ?s1 ?s2 ?s3).mono ?_); (case s1 => exact Kd.C_below (Kd.C_alloc HR0.out _) HB1.out); (case s2 => exact enters_ Try.prog Try.func25 (by kernel_rfl) rfl); (case s3 => exact (fun W x A c hx hb hl hC => store_Check1 k a0_1 A c x _ (HQ.out x hx) w.heap.size W (HCell.out W (below_step HB1.out hb)).2.1 hl hC)); rintro e w2 ⟨rfl, hb⟩; rw [← HQ2.out]; have HB2 := Aside0.mk (below_step HB1.out hb); obtain ⟨y0, y1, y2⟩ := HCell.out _ HB2.out; clear hb))
              go_ret
              exact ⟨rfl, HF.out _ HB2.out⟩
            | false =>
              have hr : r = !(l0_2.any fun n => decide (n < 0) || decide (a0_1 < n)) := by rw [← HH.out]; rfl
              subst hr
              clear HH
              go_enter Try.func9, Try.ntmps9
              go_wp2_with (first | (go_at_call 24; refine (slices_IsSorted_int_int.calls k A0_2 c0_2 l0_2 true _ (Kd.C_alloc HR2.out _) HC2.out HS.out).mono ?_; rintro e w1 ⟨rfl, hd⟩; have HB1 := Aside0.mk hd; obtain ⟨z0, z1, z2⟩ := HCell.out _ hd; clear hd) | (go_at_call 29; (with_reducible refine (api_Version_29.by_ (fun x => (wrongF k a0_1 x).getD false) 25 #[.pointer (some ⟨w.heap.size, 0, none⟩)] A0_0 c0_0 l0_0 _ ?s1 ?s2 ?s3).mono ?_); (case s1 => exact Kd.C_below (Kd.C_alloc HR0.out _) HB1.out); (case s2 => exact enters_ Try.prog Try.func25 (by kernel_rfl) rfl); (case s3 => exact (fun W x A c hx hb hl hC => store_Check1 k a0_1 A c x _ (HQ.out x hx) w.heap.size W (HCell.out W (below_step HB1.out hb)).2.1 hl hC)); rintro e w2 ⟨rfl, hb⟩; rw [← HQ2.out]; have HB2 := Aside0.mk (below_step HB1.out hb); obtain ⟨y0, y1, y2⟩ := HCell.out _ HB2.out; clear hb) | (go_at_call 30; (with_reducible refine (slices_ContainsFunc_int_int.by_ (fun n => decide (n < 0) || decide (a0_1 < n)) 28 #[.pointer (some ⟨w.heap.size, 0, none⟩)] A0_2 c0_2 l0_2 _ ?s1 ?s2 ?s3).mono ?_); (case s1 => exact Kd.C_below (Kd.C_alloc HR2.out _) HB2.out); (case s2 => exact enters_ Try.prog Try.func28 (by kernel_rfl) rfl); (case s3 => exact (fun W x hx hb => store_Check2 a0_1 x w.heap.size W (HCell.out W (below_step HB2.out hb)).2.1)); rintro e w3 ⟨rfl, hb⟩; have HB3 := Aside0.mk (below_step HB2.out hb); clear hb))
              go_ret
              exact ⟨rfl, HF.out _ HB3.out⟩
        · rw [if_neg c4] at h
          injection h with h
          subst h
          have b4 : decide (64 < (l0_2.length : Int)) = true := decide_eq_true (by omega)
          have b4' : decide (64 < l0_2.length) = true := decide_eq_true (by omega)
          clear c1 c2 c3 c4
          go_enter Try.func9, Try.ntmps9
          go_wp2
          go_ret
          exact ⟨rfl, below_alloc (Below.refl _ _) _⟩
      · rw [if_neg c3] at h
        injection h with h
        subst h
        have b3 : decide (1099511627776 < a0_1) = true := decide_eq_true (by omega)
        clear c1 c2 c3
        go_enter Try.func9, Try.ntmps9
        go_wp2
        go_ret
        exact ⟨rfl, below_alloc (Below.refl _ _) _⟩
    · rw [if_neg c2] at h
      injection h with h
      subst h
      have b2 : decide (a0_1 < 0) = true := decide_eq_true (by omega)
      clear c1 c2
      go_enter Try.func9, Try.ntmps9
      go_wp2
      go_ret
      exact ⟨rfl, below_alloc (Below.refl _ _) _⟩
  · rw [if_neg c1] at h
    injection h with h
    subst h
    have b1 : ((l0_0.length : Int) == 8) = false := beq_eq_false_iff_ne.mpr (by omega)
    have b1' : ((l0_0.length : Int) != 8) = true := by simp [bne, b1]
    have b1n : (l0_0.length == 8) = false := beq_eq_false_iff_ne.mpr c1
    clear c1
    go_enter Try.func9, Try.ntmps9
    go_wp2
    go_ret
    exact ⟨rfl, below_alloc (Below.refl _ _) _⟩
def store_param.f (a0 : Int) : Option (Bool) := if a0 ≥ 0 then (some (decide (a0 < 8))) else (some false)
set_option maxHeartbeats 8000000 in
set_option maxRecDepth 100000 in
theorem store_param.calls (a0 : Int) (r : Bool) (w : World) (h : store_param.f a0 = some r) :
    Calls Try.prog 37 #[.int .i64 a0] w fun e w' => e = .returned (.bool r) ∧ Drawn0 w w' := by
  have H : (if a0 ≥ 0 then (some (decide (a0 < 8))) else (some false)) = some r := h
  clear h
  by_cases c2 : a0 ≥ 0
  · rw [if_pos c2] at H
    have c2b0 : decide (0 ≤ a0) = true := decide_eq_true c2
    clear c2
    obtain rfl := Option.some.inj H
    go_enter Try.func37, Try.ntmps37
    go_wp2
    go_ret
    exact ⟨by first | rfl | (simp; done) | (simp [*]; done), by repeat (first | exact Drawn0.refl _ | apply Drawn0.step)⟩
  · rw [if_neg c2] at H
    have c2b0 : decide (0 ≤ a0) = false := decide_eq_false c2
    clear c2
    obtain rfl := Option.some.inj H
    go_enter Try.func37, Try.ntmps37
    go_wp2
    go_ret
    exact ⟨by first | rfl | (simp; done) | (simp [*]; done), by repeat (first | exact Drawn0.refl _ | apply Drawn0.step)⟩
def slices_Clone_int_int.f (l0 : List Int) : Option (List Int) := if l0.length < 17592186044416 then some l0 else none
set_option maxHeartbeats 8000000 in
set_option maxRecDepth 100000 in
theorem slices_Clone_int_int.calls (A0 : Option Addr) (c0 : Nat) (l0 : List Int) (r : List Int) (w : World) (hr0 : Kd.C (Kd.int .i64) w A0 l0.length l0) (hc0 : l0.length ≤ c0) (h : slices_Clone_int_int.f l0 = some r) :
    Calls Try.prog 39 #[.slice A0 l0.length c0] w fun e w' => ∃ v0_ : Value, e = .returned (v0_) ∧ Kd.R (Kd.int .i64) 3 w' w.heap.size (fun _ => True) v0_ r ∧ Below w.heap.size w w' := by
  unfold slices_Clone_int_int.f at h
  by_cases hl : l0.length < 17592186044416
  · rw [if_pos hl] at h
    obtain rfl := Option.some.inj h
    have HL := Aside0.mk hl
    have HR0 := Aside0.mk hr0
    have HC0 := Aside0.mk hc0
    have HB := Aside0.mk (Below.refl w.heap.size w)
    clear hl h
    cases A0 with
    | none =>
      have h0 : l0 = [] := by
        by_cases hn : l0 = []
        · exact hn
        · exfalso
          obtain ⟨ad, he, _⟩ := Kd.at_int HR0.out 0 (by omega) (by have := List.length_pos_iff.mpr hn; omega)
          cases he
      subst h0
      clear hr0 hc0
      have hne : ∀ W : World, (binOp .eql 23 (.slice none 0 c0) (.slice none 0 0)).run Try.prog W = .ok (.bool true) W := fun W => Lib.run_eql_slice_nil W 23 3 none 0 c0 0 0 Try.underlying23
      simp only [List.length_nil]
      go_enter Try.func39, Try.ntmps39
      go_wp2
      go_ret
      exact ⟨_, rfl, Kd.R_nil _ _ _ _ _, HB.out⟩
    | some ad =>
      clear hr0 hc0
      have hne : ∀ W : World, (binOp .eql 23 (.slice (some ad) l0.length c0) (.slice none 0 0)).run Try.prog W = .ok (.bool false) W := fun W => Lib.run_eql_slice_nil W 23 3 (some ad) l0.length c0 0 0 Try.underlying23
      obtain ⟨y1, hy1⟩ : ∃ y_ : List Int, y_ = ([] : List Int) := ⟨_, rfl⟩
      have Ny1 := Aside0.mk hy1
      obtain ⟨y2, hy2⟩ : ∃ y_ : List Int, y_ = y1 ++ l0 := ⟨_, rfl⟩
      have Ny2 := Aside0.mk hy2
      have he : y2 = l0 := by rw [hy2, hy1]; rfl
      have HE := Aside0.mk he
      clear hy1 hy2 he
      go_enter Try.func39, Try.ntmps39
      go_wp2_with (first | ((with_reducible refine gate_dst (N := 5) rfl ?_); refine Kd.R_lit (Kd.int .i64) _ 3 ?hg (N := 5) ?hd (xs := ([] : List Int)) (inner := []) (ok := fun _ => True) (okp := fun _ => True) ?hr ?hp (fun _ hk => hk) trivial (Below.refl _ _) (Nat.le_refl _) (by simp) ?_; (case hd => rfl); (case hg => rfl); (case hr => first | (go_simp; done) | (go_simp; rfl)); (case hp => exact (Reps.none _ _)); intro v218 w4 ho5 hb hg_ hnew_; clear hg_ hnew_; rw [← Ny1.out] at ho5; have n0_ := Aside0.mk (Kd.R_lower ho5 (below_size (by repeat (first | (with_reducible first | exact HB.out | apply below_alloc | apply pw_below_drewN | apply below_drew1) | exact HB.out)))); have n1_ := Aside0.mk (below_step (by repeat (first | (with_reducible first | exact HB.out | apply below_alloc | apply pw_below_drewN | apply below_drew1) | exact HB.out)) hb); clear HB; have HO219 := n0_; have HB := n1_; clear n0_ n1_; clear hb ho5) | ((with_reducible refine gate_builtin (b := .append) (xs := #[.tmp 5, .tmp 6]) rfl ?_); at_builtin; refine Kd.R_append_rows (Kd.int .i64) (w0 := w) w.heap.size rfl (.tmp 5) (.tmp 6) 23 3 (.int .i64 0) 8 rfl Try.underlying23 info3 rfl (by decide) (by omega) v218 y1 l0 _ _ _ (fun _ => True) (fun _ => False) rfl rfl ?aO ?aR (fun _ _ h => h) (fun _ h => h.elim) ?aF ?aB ?aS ?aL ?_; (case aR => repeat (first | exact (Kd.C_below HR0.out HB.out) | (with_reducible refine Kd.C_alloc ?_ _) | (with_reducible refine Kd.C_drewN ?_ _) | (with_reducible refine Kd.C_drew ?_))); (case aB => exact (by repeat (first | (with_reducible first | exact HB.out | apply below_alloc | apply pw_below_drewN | apply below_drew1) | exact HB.out))); (case aF => exact (fun _ _ => trivial)); (case aO => exact (by (with_reducible repeat (first | apply Kd.R_alloc | apply Kd.R_drewN | apply Kd.R_drew)); exact HO219.out)); (case aS => exact (below_size (by repeat (first | (with_reducible first | exact HB.out | apply below_alloc | apply pw_below_drewN | apply below_drew1) | exact HB.out)))); (case aL => have := HL.out; have h3 := Ny1.out; rw [h3]; simp; omega); intro v221 w6 ho hb hg hat; rw [← Ny2.out, HE.out] at ho; have n0_ := Aside0.mk (hb); have n1_ := Aside0.mk (ho); clear HB; clear HO219; have HB := n0_; have HO222 := n1_; clear n0_ n1_; clear ho hb hg hat))
      go_ret
      exact ⟨_, rfl, by (with_reducible repeat (first | apply Kd.R_alloc | apply Kd.R_drewN | apply Kd.R_drew)); exact HO222.out, HB.out⟩
  · rw [if_neg hl] at h; cases h
end Go.Proofs.Ytmolbbebglfhmaa.A
