/- Lean functions that answer as the Go functions do, and the proofs that they do; no conditions. Written by this session's own driver: a scratch copy of the kit's print with the session's additions (wip/xprint). -/
import Derived.Test.YtalmgghhpgfgoaaAx0
import Derived.Test.YtalmgghhpgfgoaaAx3
import Derived.Test.YtalmgghhpgfgoaaAx5
namespace Go.Proofs.Ytalmgghhpgfgoaa.A
open Go.RowKit Go.Proofs.YtalmgghhpgfgoaaW.PrintWords Go.Proofs.YtalmgghhpgfgoaaW.PrintLast Go.Proofs.YtalmgghhpgfgoaaW.PrintMore
attribute [local go_sem] max2_int min2_int max_two min_two max_three min_three max_four min_four   -- for this text's walks alone
set_option linter.unusedVariables false
set_option linter.unusedSimpArgs false

/-! ### infer_together: function 52 (given) -/
def infer_together.f (l0 : List (List Int)) (a1 : Int) (l2 : List Int) : Option (List Int × Bool) :=
  if 0 < (l0.length : Int) then (if 0 ≤ a1 ∧ a1 < ((rd_L1 l0 0).length : Int) ∧ (rd_L1 l0 0).length < 17592186044416 then some ((rd_L1 l0 0).take a1.toNat ++ (rd_L1 l0 0).drop (a1.toNat + 1), true) else none) else none
set_option maxHeartbeats 8000000 in
set_option maxRecDepth 100000 in
theorem infer_together.calls (A0 : Option Addr) (c0 : Nat) (l0 : List (List Int)) (a1 : Int) (A2 : Option Addr) (c2 : Nat) (l2 : List Int) (r1 : List Int) (r2 : Bool) (w : World) (hr0 : Kd.C (Kd.slice 3 (Kd.int .i64)) w A0 l0.length l0) (hc0 : l0.length ≤ c0) (hr2 : Kd.C (Kd.int .i64) w A2 l2.length l2) (hc2 : l2.length ≤ c2) (h : infer_together.f l0 a1 l2 = some (r1, r2)) :
    Calls Try.prog 52 #[.slice A0 l0.length c0, .int .i64 a1, .slice A2 l2.length c2] w fun e w' => ∃ v0_ : Value, e = .returned (.tuple #[v0_, .bool r2]) ∧ Kd.R (Kd.int .i64) 3 w' w.heap.size (fun _ => True) v0_ r1 ∧ Below w.heap.size w w' := by
  have HR0 := Aside0.mk hr0
  clear hr0 hc0 hr2 hc2
  unfold infer_together.f at h
  split at h
  case isFalse => cases h
  case isTrue q170 =>
  split at h
  case isFalse => cases h
  case isTrue hc =>
  obtain ⟨a0, al, aL⟩ := hc
  have h2 := Option.some.inj h
  simp only [Prod.mk.injEq] at h2
  obtain ⟨rfl, rfl⟩ := h2
  clear h
  obtain ⟨i, rfl⟩ := Int.eq_ofNat_of_zero_le a0
  have p170 : 0 ≤ (0 : Int) := by omega
  obtain ⟨ad170, A170_0, c170_0, e170, hx170_0, hl170_0, hi170_0⟩ := at_L1 HR0.out 0 p170 q170
  cases e170
  rw [show ((0 : Int)).toNat = 0 from rfl, Addr.add_zero'] at hx170_0
  have HR := Aside0.mk hi170_0
  have HC := Aside0.mk hl170_0
  have hq : (0 < l0.length) = True := eq_true (by omega)
  obtain ⟨s, hs⟩ : ∃ s, s = rd_L1 l0 0 := ⟨_, rfl⟩
  rw [← hs] at hx170_0 HR HC al aL ⊢
  clear hi170_0 hl170_0 hs a0 p170
  have HAl := Aside0.mk al
  have HCl := Aside0.mk (show slices_Clone_int_int.f s = some s by unfold slices_Clone_int_int.f; simp [aL])
  have hw : (i : Int) + 1 ≤ 9223372036854775807 := by omega
  clear al aL
  go_enter Try.func52, Try.ntmps52
  go_wp2_with fail
  refine (slices_Clone_int_int.calls A170_0 c170_0 s s _ HR.out HC.out HCl.out).mono ?_
  rintro e w1 ⟨v, rfl, hR, hb⟩
  have HR1 := Aside0.mk hR
  have HB1 := Aside0.mk hb
  clear hR hb
  go_wp2_with fail
  refine (slices_Delete_int_int.own v s i (i + 1) w.heap.size (fun _ => True) w1 HR1.out (by omega) (by have := HAl.out; omega)).mono ?_
  rintro e w2 ⟨v2, rfl, hR2, hb2⟩
  have HR2 := Aside0.mk hR2
  have HB2 := Aside0.mk hb2
  clear hR2 hb2
  go_wp2_with fail
  go_ret2
  exact ⟨_, rfl, HR2.out, HB1.out.trans HB2.out⟩


/-! ### infer_sided_1: function 62 (given) -/
/-- A call of a function value, in a region. -/
theorem goesV_ {P : Program} {ops : Array Oper} {Q : Exit → Act → World → Prop} {oi : Oper} {N : Option Tmp} {a : Act} {w : World} {K : Act → World → Prop} {f : FuncId} {cv : Operand} {us : Array Operand} {ts : Array TypeId} {lb : Array Value} (args : Array Value)
    (hw : Region.wanted oi (yielded ops a.tmps) = true) (hN : oi.dst = N) (hop : oi.op = .call { callee := .value cv, args := us, argTypes := ts }) (hcv : a.eval cv = .func (.func f) #[] lb) (hargs : us.map a.eval = args) (hen : ∀ args W, (callFunc f args).run P W = .ok (.enter f args) W)
    (h : Calls P f (args ++ lb) w fun e w' => ∃ v, e = .returned v ∧ K (a.put N v) w') : if Region.wanted oi (yielded ops a.tmps) = true then Oper.wp P oi a w K Q else K (a.put N undef) w := by
  refine call_ f (args ++ lb) hw hN ?_ h
  have he := hen (args ++ lb) w
  unfold execOp
  simp [hop, resolve, Deferred.ofValue, invoke, hcv, hargs, he]
/-- What a rule for a side answers, of what is done with it. -/
def sidedF (D : List (List Int) → Int → List Int → Option (List Int × Bool)) (l0 : List (List Int)) (l1 : List Int) : Option (List Int × Bool) :=
  if 0 < (l1.length : Int) then (if rd l1 0 < 0 then some ([], false) else (if 0 < (l0.length : Int) then (if rd l1 0 ≥ ((rd_L1 l0 0).length : Int) then some ([], false) else D l0 (rd l1 0) (l1.drop 1)) else none)) else none
/-- A function that answers as F does, of a shape's rows and numbers: what a call of it comes to. -/
def RuleAt (w : World) (g : Nat) (lb : Array Value) (F : List (List Int) → List Int → Option (List Int × Bool)) : Prop :=
  (∀ args W, (callFunc g args).run Try.prog W = .ok (.enter g args) W) ∧ ∀ (A0 : Option Addr) (c0 : Nat) (l0 : List (List Int)) (A1 : Option Addr) (c1 : Nat) (l1 : List Int) (r1 : List Int) (r2 : Bool) (W : World), Below w.heap.size w W → Kd.C (Kd.slice 3 (Kd.int .i64)) W A0 l0.length l0 → l0.length ≤ c0 → Kd.C (Kd.int .i64) W A1 l1.length l1 → l1.length ≤ c1 → F l0 l1 = some (r1, r2) →
    Calls Try.prog g (#[.slice A0 l0.length c0, .slice A1 l1.length c1] ++ lb) W (fun e w' => ∃ v0_ : Value, e = .returned (.tuple #[v0_, .bool r2]) ∧ Kd.R (Kd.int .i64) 3 w' W.heap.size (fun _ => True) v0_ r1 ∧ Below W.heap.size W w')
def SideAt (g : Nat) (D : List (List Int) → Int → List Int → Option (List Int × Bool)) : Prop :=
  (∀ args W, (callFunc g args).run Try.prog W = .ok (.enter g args) W) ∧ ∀ (A0 : Option Addr) (c0 : Nat) (l0 : List (List Int)) (a1 : Int) (A2 : Option Addr) (c2 : Nat) (l2 : List Int) (r1 : List Int) (r2 : Bool) (W : World), Kd.C (Kd.slice 3 (Kd.int .i64)) W A0 l0.length l0 → l0.length ≤ c0 → Kd.C (Kd.int .i64) W A2 l2.length l2 → l2.length ≤ c2 → D l0 a1 l2 = some (r1, r2) →
    Calls Try.prog g #[.slice A0 l0.length c0, .int .i64 a1, .slice A2 l2.length c2] W (fun e w' => ∃ v0_ : Value, e = .returned (.tuple #[v0_, .bool r2]) ∧ Kd.R (Kd.int .i64) 3 w' W.heap.size (fun _ => True) v0_ r1 ∧ Below W.heap.size W w')
set_option maxHeartbeats 8000000 in
set_option maxRecDepth 100000 in
theorem infer_sided_1.calls (D : List (List Int) → Int → List Int → Option (List Int × Bool)) (g p : Nat) (A0 : Option Addr) (c0 : Nat) (l0 : List (List Int)) (A1 : Option Addr) (c1 : Nat) (l1 : List Int) (r1 : List Int) (r2 : Bool) (w : World) (hr0 : Kd.C (Kd.slice 3 (Kd.int .i64)) w A0 l0.length l0) (hc0 : l0.length ≤ c0) (hr1 : Kd.C (Kd.int .i64) w A1 l1.length l1) (hc1 : l1.length ≤ c1) (hbox : w.heap[p]? = some (.cells #[.func (.func g) #[] #[]] 69 (0, 0))) (hD : SideAt g D) (h : sidedF D l0 l1 = some (r1, r2)) :
    Calls Try.prog 62 #[.slice A0 l0.length c0, .slice A1 l1.length c1, .pointer (some ⟨p, 0, none⟩)] w (fun e w' => ∃ v0_ : Value, e = .returned (.tuple #[v0_, .bool r2]) ∧ Kd.R (Kd.int .i64) 3 w' w.heap.size (fun _ => True) v0_ r1 ∧ Below w.heap.size w w') := by
  have HR0 := Aside0.mk hr0
  have HC0 := Aside0.mk hc0
  have HR1 := Aside0.mk hr1
  have HC1 := Aside0.mk hc1
  have HBox := Aside0.mk hbox
  have HD := Aside0.mk hD
  clear hr0 hc0 hr1 hc1 hbox hD
  unfold sidedF at h
  split at h
  case isFalse => cases h
  case isTrue q0 =>
  obtain ⟨ad, hA, hx⟩ := Kd.at_int HR1.out 0 (by omega) q0
  subst hA
  rw [show ((0 : Int)).toNat = 0 from rfl, Addr.add_zero'] at hx
  have hq : (0 < l1.length) = True := eq_true (by omega)
  obtain ⟨ax, hax⟩ : ∃ ax, ax = rd l1 0 := ⟨_, rfl⟩
  rw [← hax] at hx h
  have HA := Aside0.mk hax
  clear hax
  have HQ0 := Aside0.mk q0
  by_cases t0 : ax < 0
  · rw [if_pos t0] at h
    have h2 := Option.some.inj h
    simp only [Prod.mk.injEq] at h2
    obtain ⟨rfl, rfl⟩ := h2
    clear h
    have b0 : decide (ax < 0) = true := decide_eq_true t0
    clear t0
    go_enter Try.func62, Try.ntmps62
    go_wp2_with fail
    go_ret2
    exact ⟨_, rfl, Kd.R_nil _ _ _ _ _, Below.refl _ _⟩
  · rw [if_neg t0] at h
    split at h
    case isFalse => cases h
    case isTrue q1 =>
    obtain ⟨ad0, A00, c00, e00, hx0, hl0, hi0⟩ := at_L1 HR0.out 0 (by omega) q1
    subst e00
    rw [show ((0 : Int)).toNat = 0 from rfl, Addr.add_zero'] at hx0
    have hq1 : (0 < l0.length) = True := eq_true (by omega)
    have b0 : decide (ax < 0) = false := decide_eq_false t0
    clear hl0 hi0
    by_cases t1 : ax ≥ ((rd_L1 l0 0).length : Int)
    · rw [if_pos t1] at h
      have h2 := Option.some.inj h
      simp only [Prod.mk.injEq] at h2
      obtain ⟨rfl, rfl⟩ := h2
      clear h
      have b1 : decide (ax ≥ ((rd_L1 l0 0).length : Int)) = true := decide_eq_true t1
      clear t0 t1
      go_enter Try.func62, Try.ntmps62
      go_wp2_with fail
      go_ret2
      exact ⟨_, rfl, Kd.R_nil _ _ _ _ _, Below.refl _ _⟩
    · rw [if_neg t1] at h
      have b1 : decide (ax ≥ ((rd_L1 l0 0).length : Int)) = false := decide_eq_false t1
      clear t0 t1
      have H := Aside0.mk h
      clear h
      obtain ⟨i0, hi0, _, hsz, _⟩ := info_parts info3
      obtain ⟨A5, hcut, hA5, hC5⟩ := print_drop_of (P := Try.prog) (Value.int .i64) 0 23 3 .i64 Try.underlying23 hi0 hsz (some ad) c1 l1 1 (by omega) (by have := HQ0.out; omega) HC1.out
      have HRd := Aside0.mk (Kd.C_of_reads (h1 := fun _ => rfl) (hA5 _ (Kd.reads_of_C HR1.out)))
      have HCd := Aside0.mk hC5
      clear hA5 hC5 hi0 hsz
      go_enter Try.func62, Try.ntmps62
      go_wp2_with fail
      refine start_ (n := 10) (S := fun w' => w'.cell? ⟨p, 0, none⟩ = some (.func (.func g) #[] #[])) (ds := [5]) #[false, false, false, false, false, false, false, false, false, false] (by kernel_rfl) rfl rfl ((blk_cell HBox.out 0).trans rfl) (fun hHeld => ?_)
      obtain ⟨W, hW⟩ : ∃ W, W = w.drew := ⟨_, rfl⟩
      have HW := Aside0.mk hW
      rw [← hW] at hHeld ⊢
      clear hW hx hx0
      refine take_ (i := 0) (N := some 21) (v := ?_) (a' := ?_) #[true, false, false, false, false, false, false, false, false, false] rfl rfl (by kernel_rfl) (fun _ _ _ h => h) (Or.inl ⟨by rfl, ?_⟩) hHeld ?_ ?_
      rotate_left
      · intro w' s0
        go_simp
        with_reducible rfl
      rotate_left
      · simp only [Act.put, List.setIfInBounds_toArray, List.set_cons_zero, List.set_cons_succ, i64_w, i32_w]
        rfl
      refine pure_ (i := 1) (N := some 22) (v := ?_) (a' := ?_) #[true, true, false, false, false, false, false, false, false, false] rfl rfl (by kernel_rfl) (fun _ _ _ h => h) (Or.inl ⟨by rfl, ?_⟩) ?_ ?_
      rotate_left
      · intro w'
        go_simp
        with_reducible rfl
      rotate_left
      · simp only [Act.put, List.setIfInBounds_toArray, List.set_cons_zero, List.set_cons_succ, i64_w, i32_w]
        rfl
      refine pure_ (i := 2) (N := some 23) (v := ?_) (a' := ?_) #[true, true, true, false, false, false, false, false, false, false] rfl rfl (by kernel_rfl) (fun _ _ _ h => h) (Or.inl ⟨by rfl, ?_⟩) ?_ ?_
      rotate_left
      · intro w'
        go_simp
        with_reducible rfl
      rotate_left
      · simp only [Act.put, List.setIfInBounds_toArray, List.set_cons_zero, List.set_cons_succ, i64_w, i32_w]
        rfl
      refine pure_ (i := 3) (N := some 24) (v := ?_) (a' := ?_) #[true, true, true, true, false, false, false, false, false, false] rfl rfl (by kernel_rfl) (fun _ _ _ h => h) (Or.inl ⟨by rfl, ?_⟩) ?_ ?_
      rotate_left
      · intro w'
        go_simp
        with_reducible rfl
      rotate_left
      · simp only [Act.put, List.setIfInBounds_toArray, List.set_cons_zero, List.set_cons_succ, i64_w, i32_w]
        rfl
      refine pure_ (i := 4) (N := some 25) (v := ?_) (a' := ?_) #[true, true, true, true, true, false, false, false, false, false] rfl rfl (by kernel_rfl) (fun _ _ _ h => h) (Or.inl ⟨by rfl, ?_⟩) ?_ ?_
      rotate_left
      · intro w'
        go_simp
        with_reducible rfl
      rotate_left
      · simp only [Act.put, List.setIfInBounds_toArray, List.set_cons_zero, List.set_cons_succ, i64_w, i32_w]
        rfl
      refine last_ (i := 5) (N := some 26) #[true, true, true, true, true, true, false, false, false, false] rfl rfl (by kernel_rfl) (by decide) (fun K hK => ?_)
      refine goesV_ (lb := #[]) #[.slice (some ad0) l0.length c0, .int .i64 ax, .slice A5 (l1.length - 1) (c1 - 1)] (by rfl) rfl rfl (by rfl) (by (try simp only [List.map_toArray, List.map_cons, List.map_nil]); first | done | rfl) HD.out.1 ?_
      have hbw : Below w.heap.size w W := by rw [HW.out]; exact below_drew1 (Below.refl _ _)
      rw [show l1.length - 1 = (l1.drop 1).length from List.length_drop.symm]
      refine (HD.out.2 (some ad0) c0 l0 ax A5 (c1 - 1) (l1.drop 1) r1 r2 W (Kd.C_below HR0.out hbw) HC0.out (Kd.C_below HRd.out hbw) HCd.out (by rw [← H.out, HA.out])).mono ?_
      rintro e W1 ⟨v, rfl, hR, hb⟩
      have HRr := Aside0.mk hR
      have HBr := Aside0.mk hb
      have HBw := Aside0.mk hbw
      clear hR hb hbw
      refine ⟨_, rfl, ?_⟩
      refine hK.out _ _ ?_
      clear hK K
      refine norm_ (a' := ?_) ?_ ?_
      rotate_left
      · show Act.put _ (some 26) _ = _
        simp only [Act.put, List.setIfInBounds_toArray, List.set_cons_zero, List.set_cons_succ, i64_w, i32_w]
        rfl
      refine pure_ (i := 6) (N := some 27) (v := ?_) (a' := ?_) #[true, true, true, true, true, true, true, false, false, false] rfl rfl (by kernel_rfl) (fun _ _ _ h => h) (Or.inl ⟨by rfl, ?_⟩) ?_ ?_
      rotate_left
      · intro w'
        go_simp
        with_reducible rfl
      rotate_left
      · simp only [Act.put, List.setIfInBounds_toArray, List.set_cons_zero, List.set_cons_succ, i64_w, i32_w]
        rfl
      refine pure_ (i := 7) (N := some 28) (v := ?_) (a' := ?_) #[true, true, true, true, true, true, true, true, false, false] rfl rfl (by kernel_rfl) (fun _ _ _ h => h) (Or.inl ⟨by rfl, ?_⟩) ?_ ?_
      rotate_left
      · intro w'
        go_simp
        with_reducible rfl
      rotate_left
      · simp only [Act.put, List.setIfInBounds_toArray, List.set_cons_zero, List.set_cons_succ, i64_w, i32_w]
        rfl
      refine pure_ (i := 8) (N := some 5) (v := ?_) (a' := ?_) #[true, true, true, true, true, true, true, true, true, false] rfl rfl (by kernel_rfl) (fun _ _ _ h => h) (Or.inl ⟨by rfl, ?_⟩) ?_ ?_
      rotate_left
      · intro w'
        go_simp
        with_reducible rfl
      rotate_left
      · simp only [Act.put, List.setIfInBounds_toArray, List.set_cons_zero, List.set_cons_succ, i64_w, i32_w]
        rfl
      refine pure_ (i := 9) (N := some 6) (v := ?_) (a' := ?_) #[true, true, true, true, true, true, true, true, true, true] rfl rfl (by kernel_rfl) (fun _ _ _ h => h) (Or.inl ⟨by rfl, ?_⟩) ?_ ?_
      rotate_left
      · intro w'
        go_simp
        with_reducible rfl
      rotate_left
      · simp only [Act.put, List.setIfInBounds_toArray, List.set_cons_zero, List.set_cons_succ, i64_w, i32_w]
        rfl
      refine done_ (by kernel_rfl) ?_
      go_wp2_with fail
      go_ret2
      exact ⟨_, rfl, Kd.R_lower HRr.out HBw.out.size, HBw.out.trans (HBr.out.mono HBw.out.size)⟩


/-! ### infer_sided: function 49 (given) -/
theorem infer_sided.calls (g : Nat) (w : World) :
    Calls Try.prog 49 #[.func (.func g) #[] #[]] w fun e w' => e = .returned (.func (.func 62) #[] #[.pointer (some ⟨w.heap.size, 0, none⟩)]) ∧ w' = w.alloc (.cells #[.func (.func g) #[] #[]] 69) := by
  go_enter Try.func49, Try.ntmps49
  go_wp2_with fail
  go_ret
  exact ⟨rfl, rfl⟩


/-! ### infer_part: function 50 -/
def infer_part.f (l0 : List (List Int)) (a1 : Int) (l2 : List Int) : Option (List Int × Bool) := if 0 < (l2.length : Int) then (if 1 < (l2.length : Int) then (if (rd l2 0) < 0 then (some (([] : List Int), false)) else (if (rd l2 0) ≥ (rd l2 1) then (some (([] : List Int), false)) else (if 0 < (l0.length : Int) then (if 0 ≤ a1 then (if a1 < ((rd_L1 l0 0).length : Int) then (if (rd l2 1) > (rd (rd_L1 l0 0) a1) then (some (([] : List Int), false)) else ((slices_Clone_int_int.f (rd_L1 l0 0)).bind fun t182 => (if a1 < (t182.length : Int) then (some ((t182.set (a1 : Int).toNat (wrap64 ((rd l2 1) - (rd l2 0)))), true)) else (none)))) else (none)) else (none)) else (none)))) else (none)) else (none)
set_option maxHeartbeats 8000000 in
set_option maxRecDepth 100000 in
theorem infer_part.calls (A0 : Option Addr) (c0 : Nat) (l0 : List (List Int)) (a1 : Int) (A2 : Option Addr) (c2 : Nat) (l2 : List Int) (r1 : List Int) (r2 : Bool) (w : World) (hr0 : Kd.C (Kd.slice 3 (Kd.int .i64)) w A0 l0.length l0) (hc0 : l0.length ≤ c0) (hr2 : Kd.C (Kd.int .i64) w A2 l2.length l2) (hc2 : l2.length ≤ c2) (h : infer_part.f l0 a1 l2 = some (r1, r2)) :
  Calls Try.prog 50 #[.slice A0 l0.length c0, .int .i64 a1, .slice A2 l2.length c2] w fun e w' => ∃ v0_ : Value, e = .returned (.tuple #[v0_, .bool r2]) ∧ Kd.R (Kd.int .i64) 3 w' w.heap.size (fun _ => True) v0_ r1 ∧ Below w.heap.size w w' := by
 have HR0 := Aside0.mk hr0
 have HC0 := Aside0.mk hc0
 clear hr0 hc0
 have HR2 := Aside0.mk hr2
 have HC2 := Aside0.mk hc2
 clear hr2 hc2
 have HB := Aside0.mk (Below.refl w.heap.size w)
 have H : (if 0 < (l2.length : Int) then (if 1 < (l2.length : Int) then (if (rd l2 0) < 0 then (some (([] : List Int), false)) else (if (rd l2 0) ≥ (rd l2 1) then (some (([] : List Int), false)) else (if 0 < (l0.length : Int) then (if 0 ≤ a1 then (if a1 < ((rd_L1 l0 0).length : Int) then (if (rd l2 1) > (rd (rd_L1 l0 0) a1) then (some (([] : List Int), false)) else ((slices_Clone_int_int.f (rd_L1 l0 0)).bind fun t182 => (if a1 < (t182.length : Int) then (some ((t182.set (a1 : Int).toNat (wrap64 ((rd l2 1) - (rd l2 0)))), true)) else (none)))) else (none)) else (none)) else (none)))) else (none)) else (none)) = some (r1, r2) := h
 clear h
 by_cases c4 : 0 < (l2.length : Int)
 ·rw [if_pos c4] at H
  have c4b0 : decide (0 < (l2.length : Int)) = true := decide_eq_true c4
  have c4b1 : decide (0 < l2.length) = true := decide_eq_true (by omega)
  clear c4
  by_cases c5 : 1 < (l2.length : Int)
  ·rw [if_pos c5] at H
   have c5b0 : decide (1 < (l2.length : Int)) = true := decide_eq_true c5
   have c5b1 : decide (1 < l2.length) = true := decide_eq_true (by omega)
   clear c5
   by_cases c6 : (rd l2 0) < 0
   ·rw [if_pos c6] at H
    have c6b0 : decide ((rd l2 0) < 0) = true := decide_eq_true c6
    clear c6
    simp only [Option.some.injEq, Prod.mk.injEq] at H
    obtain ⟨rfl, rfl⟩ := H
    have p177 : 0 ≤ (0 : Int) := (by omega)
    have q177 : 0 < (l2.length : Int) := od_
    obtain ⟨ad177, e177, hx177_0⟩ := Kd.at_int HR2.out 0 p177 q177
    cases e177
    have qi177 : (0 < l2.length) = True := eq_true (by omega)
    (try rw [show ((0 : Int)).toNat = 0 from rfl] at hx177_0)
    (try rw [Addr.add_zero'] at hx177_0)
    replace p177 := eq_true p177
    replace q177 := eq_true q177
    have p178 : 0 ≤ (1 : Int) := (by omega)
    have q178 : 1 < (l2.length : Int) := od_
    obtain ⟨ad178, e178, hx178_0⟩ := Kd.at_int HR2.out 1 p178 q178
    obtain rfl : ad177 = ad178 := (by injection e178)
    (try simp only [show (1 : Int).toNat = 1 from rfl, Nat.reduceMul, Nat.reduceEqDiff, Go.Addr.add, ↓reduceIte] at hx178_0)
    have qi178 : (1 < l2.length) = True := eq_true (by omega)
    (try rw [show ((1 : Int)).toNat = 1 from rfl] at hx178_0)
    replace p178 := eq_true p178
    replace q178 := eq_true q178
    go_enter Try.func50, Try.ntmps50
    go_wp2
    repeat (go_quiet (fail); try go_wp2)
    go_ret2
    exact ⟨_, by first | rfl | (simp <;> rfl) | (simp [*] <;> rfl), by first | exact Kd.R_nil _ _ _ _ _ | exact Kd.N_nil _ _ _ _ _ | exact Kd.V_nil _ _ _ _ _ | exact Kd.Q_nil _ _ _ _ _ | exact Kd.S_nil _ _ _ _ _, bq0_ HB.out⟩
   ·rw [if_neg c6] at H
    have c6b0 : decide ((rd l2 0) < 0) = false := decide_eq_false c6
    clear c6
    by_cases c7 : (rd l2 0) ≥ (rd l2 1)
    ·rw [if_pos c7] at H
     have c7b0 : decide ((rd l2 1) ≤ (rd l2 0)) = true := decide_eq_true c7
     clear c7
     simp only [Option.some.injEq, Prod.mk.injEq] at H
     obtain ⟨rfl, rfl⟩ := H
     have p177 : 0 ≤ (0 : Int) := (by omega)
     have q177 : 0 < (l2.length : Int) := od_
     obtain ⟨ad177, e177, hx177_0⟩ := Kd.at_int HR2.out 0 p177 q177
     cases e177
     have qi177 : (0 < l2.length) = True := eq_true (by omega)
     (try rw [show ((0 : Int)).toNat = 0 from rfl] at hx177_0)
     (try rw [Addr.add_zero'] at hx177_0)
     replace p177 := eq_true p177
     replace q177 := eq_true q177
     have p178 : 0 ≤ (1 : Int) := (by omega)
     have q178 : 1 < (l2.length : Int) := od_
     obtain ⟨ad178, e178, hx178_0⟩ := Kd.at_int HR2.out 1 p178 q178
     obtain rfl : ad177 = ad178 := (by injection e178)
     (try simp only [show (1 : Int).toNat = 1 from rfl, Nat.reduceMul, Nat.reduceEqDiff, Go.Addr.add, ↓reduceIte] at hx178_0)
     have qi178 : (1 < l2.length) = True := eq_true (by omega)
     (try rw [show ((1 : Int)).toNat = 1 from rfl] at hx178_0)
     replace p178 := eq_true p178
     replace q178 := eq_true q178
     go_enter Try.func50, Try.ntmps50
     go_wp2
     repeat (go_quiet (fail); try go_wp2)
     go_ret2
     exact ⟨_, by first | rfl | (simp <;> rfl) | (simp [*] <;> rfl), by first | exact Kd.R_nil _ _ _ _ _ | exact Kd.N_nil _ _ _ _ _ | exact Kd.V_nil _ _ _ _ _ | exact Kd.Q_nil _ _ _ _ _ | exact Kd.S_nil _ _ _ _ _, bq0_ HB.out⟩
    ·rw [if_neg c7] at H
     have c7b0 : decide ((rd l2 1) ≤ (rd l2 0)) = false := decide_eq_false c7
     clear c7
     by_cases c8 : 0 < (l0.length : Int)
     ·rw [if_pos c8] at H
      have c8b0 : decide (0 < (l0.length : Int)) = true := decide_eq_true c8
      have c8b1 : decide (0 < l0.length) = true := decide_eq_true (by omega)
      clear c8
      by_cases c9 : 0 ≤ a1
      ·rw [if_pos c9] at H
       have c9b0 : decide (0 ≤ a1) = true := decide_eq_true c9
       clear c9
       by_cases c10 : a1 < ((rd_L1 l0 0).length : Int)
       ·rw [if_pos c10] at H
        have c10b0 : decide (a1 < ((rd_L1 l0 0).length : Int)) = true := decide_eq_true c10
        clear c10
        by_cases c11 : (rd l2 1) > (rd (rd_L1 l0 0) a1)
        ·rw [if_pos c11] at H
         have c11b0 : decide ((rd (rd_L1 l0 0) a1) < (rd l2 1)) = true := decide_eq_true c11
         clear c11
         simp only [Option.some.injEq, Prod.mk.injEq] at H
         obtain ⟨rfl, rfl⟩ := H
         have p177 : 0 ≤ (0 : Int) := (by omega)
         have q177 : 0 < (l2.length : Int) := od_
         obtain ⟨ad177, e177, hx177_0⟩ := Kd.at_int HR2.out 0 p177 q177
         cases e177
         have qi177 : (0 < l2.length) = True := eq_true (by omega)
         (try rw [show ((0 : Int)).toNat = 0 from rfl] at hx177_0)
         (try rw [Addr.add_zero'] at hx177_0)
         replace p177 := eq_true p177
         replace q177 := eq_true q177
         have p178 : 0 ≤ (1 : Int) := (by omega)
         have q178 : 1 < (l2.length : Int) := od_
         obtain ⟨ad178, e178, hx178_0⟩ := Kd.at_int HR2.out 1 p178 q178
         obtain rfl : ad177 = ad178 := (by injection e178)
         (try simp only [show (1 : Int).toNat = 1 from rfl, Nat.reduceMul, Nat.reduceEqDiff, Go.Addr.add, ↓reduceIte] at hx178_0)
         have qi178 : (1 < l2.length) = True := eq_true (by omega)
         (try rw [show ((1 : Int)).toNat = 1 from rfl] at hx178_0)
         replace p178 := eq_true p178
         replace q178 := eq_true q178
         have p179 : 0 ≤ (0 : Int) := (by omega)
         have q179 : 0 < (l0.length : Int) := od_
         obtain ⟨ad179, A179_0, c179_0, e179, hx179_0, hl179_0, hi179_0⟩ := at_L1 HR0.out 0 p179 q179
         cases e179
         have qi179 : (0 < l0.length) = True := eq_true (by omega)
         (try rw [show ((0 : Int)).toNat = 0 from rfl] at hx179_0)
         (try rw [Addr.add_zero'] at hx179_0)
         have HR179_0 := Aside0.mk hi179_0
         have HC179_0 := Aside0.mk hl179_0
         clear hi179_0 hl179_0
         replace p179 := eq_true p179
         replace q179 := eq_true q179
         have p180 : 0 ≤ (a1 : Int) := od_
         have q180 : a1 < ((rd_L1 l0 0).length : Int) := od_
         obtain ⟨ad180, e180, hx180_0⟩ := Kd.at_int HR179_0.out a1 p180 q180
         cases e180
         replace p180 := eq_true p180
         replace q180 := eq_true q180
         go_enter Try.func50, Try.ntmps50
         go_wp2
         repeat (go_quiet (fail); try go_wp2)
         go_ret2
         exact ⟨_, by first | rfl | (simp <;> rfl) | (simp [*] <;> rfl), by first | exact Kd.R_nil _ _ _ _ _ | exact Kd.N_nil _ _ _ _ _ | exact Kd.V_nil _ _ _ _ _ | exact Kd.Q_nil _ _ _ _ _ | exact Kd.S_nil _ _ _ _ _, bq0_ HB.out⟩
        ·rw [if_neg c11] at H
         have c11b0 : decide ((rd (rd_L1 l0 0) a1) < (rd l2 1)) = false := decide_eq_false c11
         clear c11
         replace H := Option.bind_eq_some_iff.mp H
         obtain ⟨t182, A120, H⟩ := H
         replace H : (if a1 < (t182.length : Int) then (some ((t182.set (a1 : Int).toNat (wrap64 ((rd l2 1) - (rd l2 0)))), true)) else (none)) = some (r1, r2) := H
         have A12 := Aside0.mk A120
         clear A120
         by_cases c13 : a1 < (t182.length : Int)
         ·rw [if_pos c13] at H
          have c13b0 : decide (a1 < (t182.length : Int)) = true := decide_eq_true c13
          clear c13
          obtain ⟨y185, hy185⟩ : ∃ y_ : List Int, y_ = (t182.set (a1 : Int).toNat (wrap64 ((rd l2 1) - (rd l2 0)))) := ⟨_, rfl⟩
          replace H : (some (y185, true)) = some (r1, r2) := by first | (rw [hy185]; with_reducible exact H) | (have H2_ := (Option.bind_some _ _).symm.trans H; rw [hy185]; with_reducible exact H2_) | (have H2_ := (Option.bind_some _ _).symm.trans H; with_reducible exact H2_) | with_reducible exact H | (rw [hy185]; exact H) | exact H
          have Ny185 := Aside0.mk hy185
          clear hy185
          simp only [Option.some.injEq, Prod.mk.injEq] at H
          obtain ⟨rfl, rfl⟩ := H
          have p177 : 0 ≤ (0 : Int) := (by omega)
          have q177 : 0 < (l2.length : Int) := od_
          obtain ⟨ad177, e177, hx177_0⟩ := Kd.at_int HR2.out 0 p177 q177
          cases e177
          have qi177 : (0 < l2.length) = True := eq_true (by omega)
          (try rw [show ((0 : Int)).toNat = 0 from rfl] at hx177_0)
          (try rw [Addr.add_zero'] at hx177_0)
          replace p177 := eq_true p177
          replace q177 := eq_true q177
          have p178 : 0 ≤ (1 : Int) := (by omega)
          have q178 : 1 < (l2.length : Int) := od_
          obtain ⟨ad178, e178, hx178_0⟩ := Kd.at_int HR2.out 1 p178 q178
          obtain rfl : ad177 = ad178 := (by injection e178)
          (try simp only [show (1 : Int).toNat = 1 from rfl, Nat.reduceMul, Nat.reduceEqDiff, Go.Addr.add, ↓reduceIte] at hx178_0)
          have qi178 : (1 < l2.length) = True := eq_true (by omega)
          (try rw [show ((1 : Int)).toNat = 1 from rfl] at hx178_0)
          replace p178 := eq_true p178
          replace q178 := eq_true q178
          have p179 : 0 ≤ (0 : Int) := (by omega)
          have q179 : 0 < (l0.length : Int) := od_
          obtain ⟨ad179, A179_0, c179_0, e179, hx179_0, hl179_0, hi179_0⟩ := at_L1 HR0.out 0 p179 q179
          cases e179
          have qi179 : (0 < l0.length) = True := eq_true (by omega)
          (try rw [show ((0 : Int)).toNat = 0 from rfl] at hx179_0)
          (try rw [Addr.add_zero'] at hx179_0)
          have HR179_0 := Aside0.mk hi179_0
          have HC179_0 := Aside0.mk hl179_0
          clear hi179_0 hl179_0
          replace p179 := eq_true p179
          replace q179 := eq_true q179
          have p180 : 0 ≤ (a1 : Int) := od_
          have q180 : a1 < ((rd_L1 l0 0).length : Int) := od_
          obtain ⟨ad180, e180, hx180_0⟩ := Kd.at_int HR179_0.out a1 p180 q180
          cases e180
          replace p180 := eq_true p180
          replace q180 := eq_true q180
          have p181 : 0 ≤ (0 : Int) := (by omega)
          have q181 : 0 < (l0.length : Int) := od_
          obtain ⟨ad181, A181_0, c181_0, e181, hx181_0, hl181_0, hi181_0⟩ := at_L1 HR0.out 0 p181 q181
          obtain rfl : ad179 = ad181 := (by injection e181)
          have qi181 : (0 < l0.length) = True := eq_true (by omega)
          (try rw [show ((0 : Int)).toNat = 0 from rfl] at hx181_0)
          (try rw [Addr.add_zero'] at hx181_0)
          have HR181_0 := Aside0.mk hi181_0
          have HC181_0 := Aside0.mk hl181_0
          clear hi181_0 hl181_0
          replace p181 := eq_true p181
          replace q181 := eq_true q181
          have ea_ := Option.some.inj (hx179_0.symm.trans hx181_0)
          injection ea_ with ea_ en_ ec_
          subst ea_
          subst ec_
          clear en_
          go_enter Try.func50, Try.ntmps50
          go_wp2_with (first | (go_at_call 40; (with_reducible refine (slices_Clone_int_int.calls _ _ (rd_L1 l0 0) t182 _ ?side1 ?side2 A12.out).mono ?_); (case side1 => exact mvC_ (HR181_0.out)); (case side2 => exact HC181_0.out); rintro e w15 ⟨v183, rfl, ho0, hb⟩; have HO184 := Aside0.mk (Kd.R_lower ho0 (below_size (bq0_ HB.out))); replace HB := Aside0.mk (below_step (bq0_ HB.out) hb); (try clear hb); (try clear ho0); have p14 : 0 ≤ (a1 : Int) := od_; have q14 : (a1 : Int) < ((t182.length : Int) : Int) := od_; obtain ⟨go14, co14, eo14, gb14, gl14, cl14, HG14⟩ := Kd.R_form HO184.out (by omega); (first | cases eo14 | (injection eo14 with ea_ en_ ec_; (first | subst ea_ | (injection ea_ with ea_; subst ea_)); subst ec_; clear en_)); have GB14 := Aside0.mk gb14; have GG14 := Aside0.mk HG14; clear gb14 gl14 HG14; obtain ⟨hx14_0, hf14_0⟩ := Kd.R_celln 0 HO184.out (a1 : Int) p14 q14; replace p14 := eq_true p14; replace q14 := eq_true q14; obtain ⟨hy16_, hz16_⟩ := Kd.R_celln 0 HO184.out (a1 : Int) od_ od_; have HP16 := Kd.R_putg HO184.out (a1 : Int) (wrap64 ((rd l2 1) - (rd l2 0)))) | ((with_reducible refine gate_store (t := 3) (p := 42) rfl ?_); (try (rw [drewN_self w15]; generalize hq_ : World.drewN w15 _ = w15; replace HO184 := Aside0.mk (Kd.R_at hq_ HO184.out); replace HB := Aside0.mk (below_at hq_ HB.out); clear hq_; (try (obtain ⟨hy16_, hz16_⟩ := Kd.R_celln 0 HO184.out (a1 : Int) od_ od_)); (try (have HP16 := Kd.R_putg HO184.out (a1 : Int) (wrap64 ((rd l2 1) - (rd l2 0))))))); refine store_event (t := 3) (p := 42) (v := ?vo_w17) (w1 := (w15.setCell ⟨go14, (a1 : Int).toNat, none⟩ (.int .i64 (wrap64 ((rd l2 1) - (rd l2 0)))))) ?hg ?ho ?hn ?hr ?_; (case ho => rfl); (case hg => rfl); (case hn => rfl); (case hr => first | (go_simp; done) | (go_simp; rfl)); intro w17 hw; have hg : w15.grownBy w17 (some go14) := (by rw [hw]; exact HP16.2); have hp_ : Kd.R (Kd.int .i64) 3 w17 w.heap.size (fun _ => True) (.slice (some ⟨go14, 0, none⟩) t182.length co14) y185 := (by rw [hw, Ny185.out]; exact HP16.1); clear HP16; replace HO184 := Aside0.mk (hp_); replace HB := Aside0.mk ((by rw [hw]; exact below_set (HB.out) GB14.out : Below w.heap.size w w17)); clear hg hw hp_))
          repeat (go_quiet (first | (go_at_call 40; (with_reducible refine (slices_Clone_int_int.calls _ _ (rd_L1 l0 0) t182 _ ?side1 ?side2 A12.out).mono ?_); (case side1 => exact mvC_ (HR181_0.out)); (case side2 => exact HC181_0.out); rintro e w15 ⟨v183, rfl, ho0, hb⟩; have HO184 := Aside0.mk (Kd.R_lower ho0 (below_size (bq0_ HB.out))); replace HB := Aside0.mk (below_step (bq0_ HB.out) hb); (try clear hb); (try clear ho0); have p14 : 0 ≤ (a1 : Int) := od_; have q14 : (a1 : Int) < ((t182.length : Int) : Int) := od_; obtain ⟨go14, co14, eo14, gb14, gl14, cl14, HG14⟩ := Kd.R_form HO184.out (by omega); (first | cases eo14 | (injection eo14 with ea_ en_ ec_; (first | subst ea_ | (injection ea_ with ea_; subst ea_)); subst ec_; clear en_)); have GB14 := Aside0.mk gb14; have GG14 := Aside0.mk HG14; clear gb14 gl14 HG14; obtain ⟨hx14_0, hf14_0⟩ := Kd.R_celln 0 HO184.out (a1 : Int) p14 q14; replace p14 := eq_true p14; replace q14 := eq_true q14; obtain ⟨hy16_, hz16_⟩ := Kd.R_celln 0 HO184.out (a1 : Int) od_ od_; have HP16 := Kd.R_putg HO184.out (a1 : Int) (wrap64 ((rd l2 1) - (rd l2 0)))) | ((with_reducible refine gate_store (t := 3) (p := 42) rfl ?_); (try (rw [drewN_self w15]; generalize hq_ : World.drewN w15 _ = w15; replace HO184 := Aside0.mk (Kd.R_at hq_ HO184.out); replace HB := Aside0.mk (below_at hq_ HB.out); clear hq_; (try (obtain ⟨hy16_, hz16_⟩ := Kd.R_celln 0 HO184.out (a1 : Int) od_ od_)); (try (have HP16 := Kd.R_putg HO184.out (a1 : Int) (wrap64 ((rd l2 1) - (rd l2 0))))))); refine store_event (t := 3) (p := 42) (v := ?vo_w17) (w1 := (w15.setCell ⟨go14, (a1 : Int).toNat, none⟩ (.int .i64 (wrap64 ((rd l2 1) - (rd l2 0)))))) ?hg ?ho ?hn ?hr ?_; (case ho => rfl); (case hg => rfl); (case hn => rfl); (case hr => first | (go_simp; done) | (go_simp; rfl)); intro w17 hw; have hg : w15.grownBy w17 (some go14) := (by rw [hw]; exact HP16.2); have hp_ : Kd.R (Kd.int .i64) 3 w17 w.heap.size (fun _ => True) (.slice (some ⟨go14, 0, none⟩) t182.length co14) y185 := (by rw [hw, Ny185.out]; exact HP16.1); clear HP16; replace HO184 := Aside0.mk (hp_); replace HB := Aside0.mk ((by rw [hw]; exact below_set (HB.out) GB14.out : Below w.heap.size w w17)); clear hg hw hp_)); try go_wp2_with (first | (go_at_call 40; (with_reducible refine (slices_Clone_int_int.calls _ _ (rd_L1 l0 0) t182 _ ?side1 ?side2 A12.out).mono ?_); (case side1 => exact mvC_ (HR181_0.out)); (case side2 => exact HC181_0.out); rintro e w15 ⟨v183, rfl, ho0, hb⟩; have HO184 := Aside0.mk (Kd.R_lower ho0 (below_size (bq0_ HB.out))); replace HB := Aside0.mk (below_step (bq0_ HB.out) hb); (try clear hb); (try clear ho0); have p14 : 0 ≤ (a1 : Int) := od_; have q14 : (a1 : Int) < ((t182.length : Int) : Int) := od_; obtain ⟨go14, co14, eo14, gb14, gl14, cl14, HG14⟩ := Kd.R_form HO184.out (by omega); (first | cases eo14 | (injection eo14 with ea_ en_ ec_; (first | subst ea_ | (injection ea_ with ea_; subst ea_)); subst ec_; clear en_)); have GB14 := Aside0.mk gb14; have GG14 := Aside0.mk HG14; clear gb14 gl14 HG14; obtain ⟨hx14_0, hf14_0⟩ := Kd.R_celln 0 HO184.out (a1 : Int) p14 q14; replace p14 := eq_true p14; replace q14 := eq_true q14; obtain ⟨hy16_, hz16_⟩ := Kd.R_celln 0 HO184.out (a1 : Int) od_ od_; have HP16 := Kd.R_putg HO184.out (a1 : Int) (wrap64 ((rd l2 1) - (rd l2 0)))) | ((with_reducible refine gate_store (t := 3) (p := 42) rfl ?_); (try (rw [drewN_self w15]; generalize hq_ : World.drewN w15 _ = w15; replace HO184 := Aside0.mk (Kd.R_at hq_ HO184.out); replace HB := Aside0.mk (below_at hq_ HB.out); clear hq_; (try (obtain ⟨hy16_, hz16_⟩ := Kd.R_celln 0 HO184.out (a1 : Int) od_ od_)); (try (have HP16 := Kd.R_putg HO184.out (a1 : Int) (wrap64 ((rd l2 1) - (rd l2 0))))))); refine store_event (t := 3) (p := 42) (v := ?vo_w17) (w1 := (w15.setCell ⟨go14, (a1 : Int).toNat, none⟩ (.int .i64 (wrap64 ((rd l2 1) - (rd l2 0)))))) ?hg ?ho ?hn ?hr ?_; (case ho => rfl); (case hg => rfl); (case hn => rfl); (case hr => first | (go_simp; done) | (go_simp; rfl)); intro w17 hw; have hg : w15.grownBy w17 (some go14) := (by rw [hw]; exact HP16.2); have hp_ : Kd.R (Kd.int .i64) 3 w17 w.heap.size (fun _ => True) (.slice (some ⟨go14, 0, none⟩) t182.length co14) y185 := (by rw [hw, Ny185.out]; exact HP16.1); clear HP16; replace HO184 := Aside0.mk (hp_); replace HB := Aside0.mk ((by rw [hw]; exact below_set (HB.out) GB14.out : Below w.heap.size w w17)); clear hg hw hp_)))
          go_ret2
          exact ⟨_, by first | rfl | (simp <;> rfl) | (simp [*] <;> rfl), mvR_ HO184.out, bq0_ HB.out⟩
         ·rw [if_neg c13] at H
          exact absurd H (by simp)
       ·rw [if_neg c10] at H
        exact absurd H (by simp)
      ·rw [if_neg c9] at H
       exact absurd H (by simp)
     ·rw [if_neg c8] at H
      exact absurd H (by simp)
  ·rw [if_neg c5] at H
   exact absurd H (by simp)
 ·rw [if_neg c4] at H
  exact absurd H (by simp)

end Go.Proofs.Ytalmgghhpgfgoaa.A
