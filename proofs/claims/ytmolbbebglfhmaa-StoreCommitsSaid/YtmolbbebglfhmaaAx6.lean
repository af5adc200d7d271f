/- Lean functions that answer as the Go functions do, and the proofs that they do; no conditions. Written by this session's own driver: a scratch copy of the kit's print with the session's additions (wip/xprint). -/
import Derived.Test.YtmolbbebglfhmaaAx0
import Derived.Test.YtmolbbebglfhmaaAx3
import Derived.Test.YtmolbbebglfhmaaAx4
import Derived.Test.YtmolbbebglfhmaaAx5
namespace Go.Proofs.Ytmolbbebglfhmaa.A
open Go.RowKit Go.Proofs.YtmolbbebglfhmaaW.PrintWords Go.Proofs.YtmolbbebglfhmaaW.PrintLast Go.Proofs.YtmolbbebglfhmaaW.PrintMore
attribute [local go_sem] max2_int min2_int max_two min_two max_three min_three max_four min_four
set_option linter.unusedVariables false
set_option linter.unusedSimpArgs false
def cAt (C : List (List S74)) (p : Int) : List S74 := C.getD p.toNat []
set_option maxHeartbeats 8000000 in
set_option maxRecDepth 100000 in
theorem Commit1 (k : Nat) (C : List (List S74)) (stamp p : Int) (b : Bool) (h : chain_Newer.f k (cAt C p) stamp = some b) (hp0 : 0 ≤ p) (hp1 : p < (C.length : Int)) (g1 g2 : Nat) (A : Option Addr) (c : Nat) (W : World) (hc : W.cell? ⟨g1, 0, none⟩ = some (.slice A C.length c)) (hst : W.cell? ⟨g2, 0, none⟩ = some (.int .i64 stamp)) (hC : Kd.C (Kd.slice 74 k74) W A C.length C) :
  Calls Try.prog 33 #[.int .i64 p, .pointer (some ⟨g1, 0, none⟩), .pointer (some ⟨g2, 0, none⟩)] W fun e w' => e = .returned (.bool b) ∧ Below W.heap.size W w' := by
 have hu25 := Try.underlying25
 have H := Aside0.mk h
 obtain ⟨ad, A0, c0, eA, hx, hl, hC0⟩ := at_L4 hC p hp0 hp1
 have e : rd_L4 C p = cAt C p := rfl
 rw [e] at hx hl hC0
 obtain ⟨L, hL⟩ : ∃ L, L = cAt C p := ⟨_, rfl⟩
 rw [← hL] at hx hl hC0 H
 obtain ⟨P, hP⟩ : ∃ P, P = ad.add p.toNat := ⟨_, rfl⟩
 have HP := Aside0.mk hP
 have HC0 := Aside0.mk hC0
 have HL := Aside0.mk hl
 subst eA
 have q0 : (0 ≤ p) = True := eq_true hp0
 have q1 : (p < (C.length : Int)) = True := eq_true hp1
 have hw := Aside0.mk (show W.drew.cell? ⟨g1, 0, none⟩ = some (.slice (some ad) C.length c) ∧ W.drew.cell? (ad.add p.toNat) = some (.slice A0 L.length c0) ∧ W.drew.cell? ⟨g2, 0, none⟩ = some (.int .i64 stamp) from ⟨hc, hx, hst⟩)
 clear h hL hP e hC0 hl hp0 hp1 hc hx hst hC
 go_enter Try.func33, Try.ntmps33
 go_wp2_with fail
 refine start_ (n := 8) (S := fun w' => w'.cell? ⟨g1, 0, none⟩ = some (.slice (some ad) C.length c) ∧ w'.cell? (ad.add p.toNat) = some (.slice A0 L.length c0) ∧ w'.cell? ⟨g2, 0, none⟩ = some (.int .i64 stamp)) (ds := [6]) #[false, false, false, false, false, false, false, false] (by kernel_rfl) rfl rfl hw.out (fun hHeld => ?_)
 have HCd := Aside0.mk (show Kd.C k74 W.drew A0 L.length L from Kd.C_drew HC0.out)
 have HBd := Aside0.mk (below_drew1 (Below.refl W.heap.size W))
 generalize W.drew = W1 at HCd HBd hHeld ⊢
 refine pure_ (i := 0) (N := some 5) (v := ?_) (a' := ?_) #[true, false, false, false, false, false, false, false] rfl rfl (by kernel_rfl) (fun _ _ _ h => h) (Or.inl ⟨by rfl, ?_⟩) ?_ ?_
 rotate_left
 ·intro w'
  go_simp
  with_reducible rfl
 rotate_left
 ·simp only [Act.put, sA_, sB_, sC_, i64_w, i32_w]
  rfl
 refine take_ (i := 1) (N := some 6) (v := ?_) (a' := ?_) #[true, true, false, false, false, false, false, false] rfl rfl (by kernel_rfl) (fun _ _ _ h => h) (Or.inl ⟨by rfl, ?_⟩) hHeld ?_ ?_
 rotate_left
 ·rintro w' ⟨s0, s1, s2⟩
  go_simp
  with_reducible rfl
 rotate_left
 ·simp only [Act.put, sA_, sB_, sC_, i64_w, i32_w]
  rfl
 refine pure_ (i := 2) (N := some 7) (v := ?_) (a' := ?_) #[true, true, true, false, false, false, false, false] rfl rfl (by kernel_rfl) (fun _ _ _ h => h) (Or.inl ⟨by rfl, ?_⟩) ?_ ?_
 rotate_left
 ·intro w'
  go_simp
  with_reducible rfl
 rotate_left
 ·simp only [Act.put, sA_, sB_, sC_, i64_w, i32_w]
  rfl
 refine pure_ (i := 3) (N := some 8) (v := ?_) (a' := ?_) #[true, true, true, true, false, false, false, false] rfl rfl (by kernel_rfl) (fun _ _ _ h => h) (Or.inl ⟨by rfl, ?_⟩) ?_ ?_
 rotate_left
 ·intro w'
  go_simp
  with_reducible rfl
 rotate_left
 ·simp only [Act.put, sA_, sB_, sC_, i64_w, i32_w]
  rfl
 refine take_ (i := 4) (N := some 9) (v := ?_) (a' := ?_) #[true, true, true, true, true, false, false, false] rfl rfl (by kernel_rfl) (fun _ _ _ h => h) (Or.inl ⟨by rfl, ?_⟩) hHeld ?_ ?_
 rotate_left
 ·rintro w' ⟨s0, s1, s2⟩
  go_simp
  with_reducible rfl
 rotate_left
 ·simp only [Act.put, sA_, sB_, sC_, i64_w, i32_w]
  rfl
 refine take_ (i := 5) (N := some 10) (v := ?_) (a' := ?_) #[true, true, true, true, true, true, false, false] rfl rfl (by kernel_rfl) (fun _ _ _ h => h) (Or.inl ⟨by rfl, ?_⟩) hHeld ?_ ?_
 rotate_left
 ·rintro w' ⟨s0, s1, s2⟩
  go_simp
  with_reducible rfl
 rotate_left
 ·simp only [Act.put, sA_, sB_, sC_, i64_w, i32_w]
  rfl
 refine last_ (i := 6) (N := some 11) #[true, true, true, true, true, true, true, false] rfl rfl (by kernel_rfl) (by decide) (fun K hK => ?_)
 refine goes_ Try.func27 (by kernel_rfl) rfl #[.slice A0 L.length c0, .int .i64 stamp] (by rfl) rfl rfl (by (try simp only [List.map_toArray, List.map_cons, List.map_nil]); first | done | rfl) ?_
 refine (chain_Newer.calls k A0 c0 L stamp b W1 HCd.out HL.out H.out).mono ?_
 rintro e W2 ⟨rfl, hb⟩
 refine ⟨_, rfl, ?_⟩
 have HB2 := Aside0.mk (below_step HBd.out hb)
 clear hb
 refine hK.out _ _ ?_
 clear hK K
 refine norm_ (a' := ?_) ?_ ?_
 rotate_left
 ·show Act.put _ (some 11) _ = _
  simp only [Act.put, sA_, sB_, sC_, i64_w, i32_w]
  rfl
 refine pure_ (i := 7) (N := some 4) (v := ?_) (a' := ?_) #[true, true, true, true, true, true, true, true] rfl rfl (by kernel_rfl) (fun _ _ _ h => h) (Or.inl ⟨by rfl, ?_⟩) ?_ ?_
 rotate_left
 ·intro w'
  go_simp
  with_reducible rfl
 rotate_left
 ·simp only [Act.put, sA_, sB_, sC_, i64_w, i32_w]
  rfl
 refine done_ (by kernel_rfl) ?_
 go_wp2
 go_ret
 exact ⟨rfl, HB2.out⟩
def cmNewer (k : Nat) (C : List (List S74)) (stamp : Int) : List Int → Option Bool
 | [] => some false
 | p :: r => (chain_Newer.f k (cAt C p) stamp).bind fun b => (cmNewer k C stamp r).bind fun c => some (b || c)
theorem cmNewer_any (k : Nat) (C : List (List S74)) (stamp : Int) : ∀ (l : List Int) (b : Bool), cmNewer k C stamp l = some b → (∀ p ∈ l, chain_Newer.f k (cAt C p) stamp = some ((chain_Newer.f k (cAt C p) stamp).getD false)) ∧ b = l.any fun p => (chain_Newer.f k (cAt C p) stamp).getD false
 | [], b, h => by
  injection h with h
  subst h
  exact ⟨by simp, rfl⟩
 | x :: r, b, h => by
  obtain ⟨b1, h1, h⟩ := Option.bind_eq_some_iff.mp h
  obtain ⟨b2, h2, h⟩ := Option.bind_eq_some_iff.mp h
  injection h with h
  obtain ⟨i1, i2⟩ := cmNewer_any k C stamp r b2 h2
  refine ⟨fun y hy => ?_, ?_⟩
  ·rcases List.mem_cons.mp hy with rfl | hy
   ·rw [h1]; rfl
   ·exact i1 y hy
  ·rw [List.any_cons, h1, ← i2, ← h]
   rfl
def cmGo (k : Nat) (now1 : Int) : List S42 → List (List S74) → Option (List (List S74) × Int)
 | [], C => some (C, 0)
 | v :: r, C => (chain_Put.f k (cAt C v.f0) now1 v.f1.f0 v.f1.f1).bind fun le => if le.2 = 0 then cmGo k now1 r (C.set v.f0.toNat le.1) else some (C, le.2)
def store_Commit.f (k : Nat) (l0_0 : List (List S74)) (a0_1 : Int) (l0_2 : List Int) (a1 : Int) (l2 : List Int) (l3 : List S42) : Option (List (List S74) × Int × List Int × Int) :=
 (store_named.f l2 l3).bind fun an => if an.2 = true then
  (store_Check.f k l0_0 a0_1 l0_2).bind fun t => if t = true then (if a0_1 = 1099511627776 then some (l0_0, a0_1, l0_2, 1) else
   (slices_BinarySearch_int_int.f k l0_2 a1).bind fun bi => if bi.2 = true then
    (cmNewer k l0_0 a1 an.1).bind fun st => if st = true then some (l0_0, a0_1, l0_2, 181) else
     (cmGo k (wrap64 (a0_1 + 1)) l3 l0_0).bind fun ce => if ce.2 = 0 then some (ce.1, wrap64 (a0_1 + 1), l0_2, 0) else some (l0_0, a0_1, l0_2, ce.2)
   else some (l0_0, a0_1, l0_2, 180))
  else some (l0_0, a0_1, l0_2, 1)
 else some (l0_0, a0_1, l0_2, 1)
theorem cmNewer_mono (C : List (List S74)) (stamp : Int) (k : Nat) : ∀ l, LeO (cmNewer k C stamp l) (cmNewer (k + 1) C stamp l)
 | [] => LeO.refl _
 | _ :: r => LeO.bind (chain_Newer.mono _ _ _) (fun _ => LeO.bind (cmNewer_mono C stamp k r) (fun _ => LeO.refl _))
theorem cmGo_mono (now1 : Int) (k : Nat) : ∀ l C, LeO (cmGo k now1 l C) (cmGo (k + 1) now1 l C)
 | [], _ => LeO.refl _
 | v :: r, C => LeO.bind (chain_Put.mono _ _ _ _ _) (fun _ => LeO.ite (cmGo_mono now1 k r _) (LeO.refl _))
theorem store_Commit.mono : ∀ a0 a1 a2 a3 a4 a5 k, LeO (store_Commit.f k a0 a1 a2 a3 a4 a5) (store_Commit.f (k + 1) a0 a1 a2 a3 a4 a5) := by
 intro a0 a1 a2 a3 a4 a5 k
 unfold store_Commit.f
 repeat' first
  | exact store_Check.mono _ _ _ _
  | exact slices_BinarySearch_int_int.mono _ _ _
  | exact cmNewer_mono _ _ _ _
  | exact cmGo_mono _ _ _ _
  | exact LeO.refl _
  | refine LeO.ite ?_ ?_
  | refine LeO.bind ?_ (fun _ => ?_)
theorem nmGo_par : ∀ (l : List S42) (seen acc r : List Int), nmGo l seen acc = some (r, true) → (∀ p ∈ r, isPar p = true) ∧ ∀ v ∈ l, isPar v.f0 = true
 | [], seen, acc, r, h => by
  simp only [nmGo, Option.some.injEq, Prod.mk.injEq] at h
  obtain ⟨rfl, h⟩ := h
  refine ⟨fun p hp => ?_, by simp⟩
  rw [Bool.not_eq_true', List.any_eq_false] at h
  have := h p hp
  simpa using this
 | v :: l, seen, acc, r, h => by
  rw [nmGo] at h
  by_cases c : isPar v.f0 = true ∧ v.f0 ∉ seen
  ·rw [if_pos c] at h
   by_cases hl : acc.length < 17592186044416
   ·rw [if_pos hl] at h
    obtain ⟨i1, i2⟩ := nmGo_par l _ _ r h
    refine ⟨i1, fun u hu => ?_⟩
    rcases List.mem_cons.mp hu with rfl | hu
    ·exact c.1
    ·exact i2 u hu
   ·rw [if_neg hl] at h; cases h
  ·rw [if_neg c] at h
   simp at h
theorem named_par {l2 : List Int} {l3 : List S42} {r : List Int} (h : store_named.f l2 l3 = some (r, true)) : (∀ p ∈ r, isPar p = true) ∧ ∀ v ∈ l3, isPar v.f0 = true := by
 obtain ⟨a, _, h⟩ := Option.bind_eq_some_iff.mp h
 exact nmGo_par l3 [] a r h
theorem check_len {k : Nat} {C : List (List S74)} {now : Int} {P : List Int} (h : store_Check.f k C now P = some true) : C.length = 8 := by
 unfold store_Check.f at h
 by_cases c : C.length = 8
 ·exact c
 ·rw [if_neg c] at h; cases h
structure CmB (w W : World) (g : Nat) (cs : Array Value) (stamp : Int) (cr : Array Value) : Prop where
 bel : Below w.heap.size w W
 ge : w.heap.size ≤ g
 bs : W.heap[g]? = some (.cells cs 25 (0, 0))
 bt : W.heap[g + 1]? = some (.cells #[.int .i64 stamp] 3 (0, 0))
 br : W.heap[g + 2]? = some (.cells cr 25 (0, 0))
theorem CmB.start (w : World) (cs cr : Array Value) (stamp : Int) : CmB w (((w.alloc (.cells cs 25)).alloc (.cells #[.int .i64 stamp] 3)).alloc (.cells cr 25)) w.heap.size cs stamp cr := by
 refine ⟨below_alloc (below_alloc (below_alloc (Below.refl _ _) _) _) _, Nat.le_refl _, blk_alloc (blk_alloc (blk_new _ _) _) _, blk_alloc ?_ _, ?_⟩
 ·have := blk_new (w.alloc (.cells cs 25)) (.cells #[.int .i64 stamp] 3)
  rw [show (w.alloc (.cells cs 25)).heap.size = w.heap.size + 1 by simp] at this
  exact this
 ·have := blk_new ((w.alloc (.cells cs 25)).alloc (.cells #[.int .i64 stamp] 3)) (.cells cr 25)
  rw [show ((w.alloc (.cells cs 25)).alloc (.cells #[.int .i64 stamp] 3)).heap.size = w.heap.size + 2 by simp] at this
  exact this
theorem CmB.below {w W W' : World} {g : Nat} {cs cr : Array Value} {stamp : Int} (h : CmB w W g cs stamp cr) (hb : Below W.heap.size W W') : CmB w W' g cs stamp cr := ⟨below_step h.bel hb, h.ge, blk_below h.bs hb, blk_below h.bt hb, blk_below h.br hb⟩
theorem CmB.put {w W : World} {g : Nat} {cs cr cr' : Array Value} {stamp : Int} (h : CmB w W g cs stamp cr) (i : Nat) (u : Value) (e : cr.setIfInBounds i u = cr') : CmB w (W.setCell ⟨g + 2, i, none⟩ u) g cs stamp cr' :=
 ⟨h.bel.setCell (p := ⟨g + 2, i, none⟩) (by have := h.ge; show w.heap.size ≤ g + 2; omega) _, h.ge, (Below.heap_setCell W ⟨g + 2, i, none⟩ u g (by simp)).trans h.bs, (Below.heap_setCell W ⟨g + 2, i, none⟩ u (g + 1) (by simp)).trans h.bt, blk_put h.br i u e⟩
theorem CmB.drew {w W : World} {g : Nat} {cs cr : Array Value} {stamp : Int} (h : CmB w W g cs stamp cr) : CmB w W.drew g cs stamp cr := h.below (below_drew1 (Below.refl _ _))
theorem val_stepc {P : Program} {ops : Array Oper} {Q : Exit → Act → World → Prop} {oi : Oper} {a : Act} {w w1 : World} {K : Act → World → Prop} {v : Value} {N : Option Tmp} (hw : Region.wanted oi (yielded ops a.tmps) = true) (hN : oi.dst = N) (hrun : (execOp a.eval oi).run P w = .ok (.value v) w1)
  (h : K (a.put N v) w1) : if Region.wanted oi (yielded ops a.tmps) = true then Oper.wp P oi a w K Q else K (a.put N undef) w := by
 rw [if_pos hw]
 unfold Oper.wp
 rw [hrun]
 subst hN
 exact h
theorem cm_made (m : Nat) : madeCells (Value.slice none 0 0).cells (m * 1) = (List.replicate m (Value.slice none 0 0)).toArray := by
 apply Array.ext
 ·simp [size_madeCells]
 ·intro i h1 h2
  simp [madeCells, Value.cells, Nat.mod_one]
theorem cm_make (W : World) : (Instr.makeSlice 22 (.int .i64 8) (.int .i64 8)).run Try.prog W = .ok (.slice (some ⟨W.heap.size, 0, none⟩) 8 8) (W.alloc (.cells (List.replicate 8 (Value.slice none 0 0)).toArray 54)) := by
 obtain ⟨i0, hi, hz0, hz1, hz2⟩ := info_parts info54
 have h := run_make (P := Try.prog) W 22 54 i0 (.slice none 0 0) Try.underlying22 hi hz0 .i64 .i64 8 8 (by omega) (by omega) (by rw [hz2]; decide) (by omega)
 rw [h, hz1]
 congr 2
 exact congrArg (fun q => Obj.cells q 54) (cm_made 8)
theorem cm_mk {o : Oper} {a : Act} (W : World) {x : Operand} (ho : o.op = .makeSlice 22 x x) (hx : a.eval x = .int .i64 8) : (execOp a.eval o).run Try.prog W = .ok (.value (.slice (some ⟨W.heap.size, 0, none⟩) 8 8)) (W.alloc (.cells (List.replicate 8 (Value.slice none 0 0)).toArray 54)) := by
 have hr := cm_make W
 simp [execOp, ho, hx, hr]
theorem cm_al {o : Oper} {a : Act} (W : World) (ho : o.op = .alloc 25) : (execOp a.eval o).run Try.prog W = .ok (.value (.pointer (some ⟨W.heap.size, 0, none⟩))) (W.alloc (.cells #[.slice none 0 0, .int .i64 0, .slice none 0 0] 25)) := by
 obtain ⟨dst, op, type, pos, after, guard⟩ := o
 simp only at ho
 subst ho
 go_simp
theorem CmB.far {w W : World} {g : Nat} {cs cr : Array Value} {stamp : Int} (h : CmB w W g cs stamp cr) {q : Nat} (hq : g + 3 ≤ q) (i : Nat) (u : Value) : CmB w (W.setCell ⟨q, i, none⟩ u) g cs stamp cr :=
 ⟨h.bel.setCell (p := ⟨q, i, none⟩) (by have := h.ge; show w.heap.size ≤ q; omega) _, h.ge, (Below.heap_setCell W ⟨q, i, none⟩ u g (by show g ≠ q; omega)).trans h.bs, (Below.heap_setCell W ⟨q, i, none⟩ u (g + 1) (by show g + 1 ≠ q; omega)).trans h.bt, (Below.heap_setCell W ⟨q, i, none⟩ u (g + 2) (by show g + 2 ≠ q; omega)).trans h.br⟩
theorem rows_cells {α : Type} {R : α → List Value → Prop} {W : World} {ad : Addr} : ∀ (ps : List α) (off : Nat), (∀ (j : Nat) (p : α), ps[j]? = some p → ∃ c : List Value, c.length = 1 ∧ R p c ∧ ∀ i u, c[i]? = some u → W.cell? (ad.add ((off + j) * 1 + i)) = some u) → ∃ vs : List Value, vs.length = ps.length ∧ (∀ (j : Nat) (p : α) (v : Value), ps[j]? = some p → vs[j]? = some v → R p [v]) ∧ ∀ (j : Nat) (v : Value), vs[j]? = some v → W.cell? (ad.add (off + j)) = some v
 | [], off, _ => ⟨[], rfl, fun j p v h => by simp at h, fun j v h => by simp at h⟩
 | p :: ps, off, h => by
  obtain ⟨vs, h1, h2, h3⟩ := rows_cells (W := W) (ad := ad) (R := R) ps (off + 1) (fun j q hq => by
   obtain ⟨c, c1, c2, c3⟩ := h (j + 1) q (by simpa using hq)
   exact ⟨c, c1, c2, fun i u hu => by rw [show (off + 1 + j) * 1 + i = (off + (j + 1)) * 1 + i by omega]; exact c3 i u hu⟩)
  obtain ⟨c, c1, c2, c3⟩ := h 0 p rfl
  obtain ⟨v, rfl⟩ := List.length_eq_one_iff.mp c1
  refine ⟨v :: vs, by simp [h1], fun j q u hq hu => ?_, fun j u hu => ?_⟩
  ·cases j with
   | zero => simp at hq hu; subst hq hu; exact c2
   | succ j => exact h2 j q u (by simpa using hq) (by simpa using hu)
  ·cases j with
   | zero => simp at hu; subst hu; have := c3 0 v rfl; simpa using this
   | succ j => have := h3 j u (by simpa using hu); rwa [show off + (j + 1) = off + 1 + j by omega]
structure CmI (w W : World) (B : Nat) (cs : Array Value) (stamp : Int) (cr co : Array Value) (gc gb : Nat) (ok0 : Nat → Prop) (vs : List Value) (C : List (List S74)) : Prop where
 cm : CmB w W w.heap.size cs stamp cr
 row : W.heap[gc]? = some (.cells vs.toArray 54 (0, 0))
 out : W.heap[gb]? = some (.cells co 25 (0, 0))
 hgc : w.heap.size + 3 ≤ gc ∧ gc < B
 hgb : w.heap.size + 3 ≤ gb ∧ gb < B
 hB : B ≤ W.heap.size
 len : vs.length = 8 ∧ C.length = 8
 el : ∀ (j : Nat) x v, C[j]? = some x → vs[j]? = some v → Kd.FK (Kd.slice 74 k74) W (fun k => (k < w.heap.size ∧ ok0 k) ∨ B ≤ k) x [v]
theorem CmI.below {w W W' : World} {B : Nat} {cs cr co : Array Value} {stamp : Int} {gc gb : Nat} {ok0 : Nat → Prop} {vs : List Value} {C : List (List S74)} (h : CmI w W B cs stamp cr co gc gb ok0 vs C) (hb : Below W.heap.size W W') : CmI w W' B cs stamp cr co gc gb ok0 vs C :=
 ⟨h.cm.below hb, blk_below h.row hb, blk_below h.out hb, h.hgc, h.hgb, Nat.le_trans h.hB hb.size, h.len, fun j x v hx hv W2 h2 => h.el j x v hx hv W2 (fun k hk hlt => (h2 k hk (Nat.lt_of_lt_of_le hlt hb.size)).trans (hb.block k hlt))⟩
theorem CmI.put {w W : World} {B : Nat} {cs cr cr' co : Array Value} {stamp : Int} {gc gb : Nat} {ok0 : Nat → Prop} {vs : List Value} {C : List (List S74)} (h : CmI w W B cs stamp cr co gc gb ok0 vs C) (i : Nat) (u : Value) (e : cr.setIfInBounds i u = cr') : CmI w (W.setCell ⟨w.heap.size + 2, i, none⟩ u) B cs stamp cr' co gc gb ok0 vs C := by
 have h1 := h.hgc
 have h2 := h.hgb
 have hf : ∀ k, k ≠ w.heap.size + 2 → (W.setCell ⟨w.heap.size + 2, i, none⟩ u).heap[k]? = W.heap[k]? := fun k hk => Below.heap_setCell W ⟨w.heap.size + 2, i, none⟩ u k hk
 have hs : (W.setCell ⟨w.heap.size + 2, i, none⟩ u).heap.size = W.heap.size := by simp [World.setCell]
 exact ⟨h.cm.put i u e, (hf gc (by omega)).trans h.row, (hf gb (by omega)).trans h.out, h1, h2, by rw [hs]; exact h.hB, h.len, fun j x v hx hv W2 hW2 => h.el j x v hx hv W2 (fun k hk hlt => (hW2 k hk (by rw [hs]; exact hlt)).trans (hf k (by rcases hk with ⟨hk, _⟩ | hk <;> omega)))⟩
theorem CmI.set {w W : World} {B : Nat} {cs cr co : Array Value} {stamp : Int} {gc gb : Nat} {ok0 : Nat → Prop} {vs : List Value} {C : List (List S74)} (h : CmI w W B cs stamp cr co gc gb ok0 vs C) (p : Nat) {x : List S74} {v : Value} (hv : Kd.FK (Kd.slice 74 k74) W (fun k => (k < w.heap.size ∧ ok0 k) ∨ B ≤ k) x [v]) : CmI w (W.setCell ⟨gc, p, none⟩ v) B cs stamp cr co gc gb ok0 (vs.set p v) (C.set p x) := by
 have h1 := h.hgc
 have h2 := h.hgb
 have hne : gb ≠ gc := fun e => by
  have h3 := h.out
  rw [e, h.row] at h3
  injection h3 with h3
  injection h3 with h3 h4
  cases h4
 have hf : ∀ k, k ≠ gc → (W.setCell ⟨gc, p, none⟩ v).heap[k]? = W.heap[k]? := fun k hk => Below.heap_setCell W ⟨gc, p, none⟩ v k hk
 have hs : (W.setCell ⟨gc, p, none⟩ v).heap.size = W.heap.size := by simp [World.setCell]
 have hmove : ∀ (y : List S74) (u : Value), Kd.FK (Kd.slice 74 k74) W (fun k => (k < w.heap.size ∧ ok0 k) ∨ B ≤ k) y [u] → Kd.FK (Kd.slice 74 k74) (W.setCell ⟨gc, p, none⟩ v) (fun k => (k < w.heap.size ∧ ok0 k) ∨ B ≤ k) y [u] := fun y u hy W2 hW2 => hy W2 (fun k hk hlt => (hW2 k hk (by rw [hs]; exact hlt)).trans (hf k (by rcases hk with ⟨hk, _⟩ | hk <;> omega)))
 refine ⟨h.cm.far (by omega) p v, blk_put h.row p v (by simp), (hf gb hne).trans h.out, h1, h2, by rw [hs]; exact h.hB, by simpa using h.len, fun j y u hy hu => ?_⟩
 by_cases c : p = j
 ·subst c
  rw [List.getElem?_set] at hy hu
  simp only [if_true] at hy hu
  split at hy
  ·split at hu
   ·injection hy with hy
    injection hu with hu
    subst hy hu
    exact hmove _ _ hv
   ·cases hu
  ·cases hy
 ·rw [List.getElem?_set_ne c] at hy hu
  exact hmove _ _ (h.el j y u hy hu)
theorem size54 : (Try.prog.info? 54).map (·.size) = some 1 := by
 obtain ⟨i0, hi, hz0, hz1, hz2⟩ := info_parts info54
 rw [hi]
 simp [hz1]
theorem cm_src {w : World} {base : Nat} {A : Option Addr} {c : Nat} {C : List (List S74)} {ok1 : Nat → Prop} (h : Kd.V (Kd.slice 74 k74) 54 w base ok1 (.slice A C.length c) C) (h8 : C.length = 8) : ∃ (ad : Addr) (vs : List Value), A = some ad ∧ vs.length = 8 ∧ (∀ (j : Nat) (x : List S74) (v : Value), C[j]? = some x → vs[j]? = some v → Kd.FK (Kd.slice 74 k74) w (fun k => ok1 k ∧ k < w.heap.size) x [v]) ∧ ∀ (j : Nat) (v : Value), vs[j]? = some v → w.cell? (ad.add j) = some v := by
 have hF := Kd.V_F (Kd.V_bound h)
 obtain ⟨hl, hm, hn⟩ := Kd.F_rows hF
 obtain ⟨ad, rfl, hr⟩ := hn (by omega)
 obtain ⟨vs, h1, h2, h3⟩ := rows_cells (ad := ad) (W := w) C 0 (fun j p hj => by
  obtain ⟨c, c1, c2, c3⟩ := hr j p hj
  exact ⟨c, c1, c2, fun i u hu => by rw [Nat.zero_add]; exact c3 i u hu⟩)
 exact ⟨ad, vs, rfl, by omega, h2, fun j v hv => by have := h3 j v hv; rwa [Nat.zero_add] at this⟩
theorem CmB.rowset {w W : World} {g : Nat} {cs cr : Array Value} {stamp : Int} (h : CmB w W g cs stamp cr) {q : Nat} (hq : g + 3 ≤ q) (cs' : Array Value) : CmB w (W.setRow q cs') g cs stamp cr :=
 ⟨below_setRow h.bel (by have := h.ge; omega) cs', h.ge, (setRow_other W q g cs' (by omega)).trans h.bs, (setRow_other W q (g + 1) cs' (by omega)).trans h.bt, (setRow_other W q (g + 2) cs' (by omega)).trans h.br⟩
theorem CmI.start {w Y : World} {cs cr co : Array Value} {stamp : Int} {gc gb : Nat} {ok0 : Nat → Prop} {vs : List Value} {C : List (List S74)} {old new : Array Value} (hcm : CmB w Y w.heap.size cs stamp cr) (hrow : Y.heap[gc]? = some (.cells old 54 (0, 0))) (hout : Y.heap[gb]? = some (.cells co 25 (0, 0))) (hgc : w.heap.size + 3 ≤ gc) (hgb : w.heap.size + 3 ≤ gb) (hne : gc ≠ gb) (hv : vs.length = 8) (hC : C.length = 8) (hnew : new = vs.toArray)
  (hfk : ∀ (j : Nat) (x : List S74) (v : Value), C[j]? = some x → vs[j]? = some v → Kd.FK (Kd.slice 74 k74) w (fun k => (ok0 k ∨ w.heap.size ≤ k) ∧ k < w.heap.size) x [v]) : CmI w (Y.setRow gc new) (Y.setRow gc new).heap.size cs stamp cr co gc gb ok0 vs C := by
 have hs := size_setRow Y gc new
 have ho : ∀ k, k ≠ gc → (Y.setRow gc new).heap[k]? = Y.heap[k]? := fun k hk => setRow_other Y gc k new hk
 refine ⟨hcm.rowset hgc new, by rw [← hnew]; exact setRow_heap Y gc old new 54 (0, 0) hrow, (ho gb (fun e => hne e.symm)).trans hout, ⟨hgc, by rw [hs]; exact blk_lt hrow⟩, ⟨hgb, by rw [hs]; exact blk_lt hout⟩, Nat.le_refl _, ⟨hv, hC⟩, fun j x v hx hv W2 h2 => ?_⟩
 have hbel := hcm.bel.size
 exact hfk j x v hx hv W2 (fun k hk hlt => (h2 k (.inl ⟨hlt, by rcases hk.1 with h | h; exact h; omega⟩) (by rw [hs]; omega)).trans ((ho k (by omega)).trans (hcm.bel.block k hlt)))
theorem CmI.whole {w W : World} {B : Nat} {cs cr co : Array Value} {stamp : Int} {gc gb : Nat} {ok0 : Nat → Prop} {vs : List Value} {C : List (List S74)} (h : CmI w W B cs stamp cr co gc gb ok0 vs C) : Kd.V (Kd.slice 74 k74) 54 W w.heap.size (fun k => ok0 k ∨ w.heap.size ≤ k) (.slice (some ⟨gc, 0, none⟩) 8 8) C := by
 have hlen := h.len
 have hF : Kd.F (Kd.slice 74 k74) W (fun k => ok0 k ∨ w.heap.size ≤ k) (some ⟨gc, 0, none⟩) C.length C := fun W' hW => by
  refine ⟨rfl, by omega, fun _ => ⟨⟨gc, 0, none⟩, rfl, fun j p hj => ?_⟩⟩
  have hjl : j < vs.length := by have := (List.getElem?_eq_some_iff.1 hj).1; omega
  have hv := List.getElem?_eq_getElem hjl
  have hfk := Kd.FK_mono (h.el j p _ hj hv) (ok' := fun k => ok0 k ∨ w.heap.size ≤ k) (fun k hk => by
   rcases hk with ⟨_, hk⟩ | hk
   ·exact .inl hk
   ·have := h.hgc; exact .inr (by omega))
  refine ⟨[vs[j]], rfl, hfk W' hW, fun i u hu => ?_⟩
  cases i with
  | succ i => simp at hu
  | zero =>
   have hu : vs[j] = u := by simpa using hu
   subst hu
   have hrow : W'.heap[gc]? = some (.cells vs.toArray 54 (0, 0)) := (hW gc (.inr (by have := h.hgc; omega)) (blk_lt h.row)).trans h.row
   show W'.cell? ((⟨gc, 0, none⟩ : Addr).add (j * 1 + 0)) = _
   rw [show j * 1 + 0 = j by omega, Addr.add_lit, Nat.zero_add, blk_cell hrow]
   simp [hjl]
 have := Kd.V_mk (e := 54) (base := w.heap.size) (c := 8) (by omega : C.length ≤ 8) hF
 rw [hlen.2] at this
 exact this
structure CmK (w W : World) (cs : Array Value) (stamp : Int) (cr : Array Value) (oc ob : Option Nat) : Prop where
 cm : CmB w W w.heap.size cs stamp cr
 c : ∀ x, oc = some x → w.heap.size + 3 ≤ x ∧ W.heap[x]? = some (.cells (List.replicate 8 (Value.slice none 0 0)).toArray 54 (0, 0))
 b : ∀ x, ob = some x → w.heap.size + 3 ≤ x ∧ W.heap[x]? = some (.cells #[.slice none 0 0, .int .i64 0, .slice none 0 0] 25 (0, 0))
theorem CmK.size {w W : World} {cs cr : Array Value} {stamp : Int} {oc ob : Option Nat} (h : CmK w W cs stamp cr oc ob) : w.heap.size + 3 ≤ W.heap.size := blk_lt h.cm.br
theorem CmK.below {w W W' : World} {cs cr : Array Value} {stamp : Int} {oc ob : Option Nat} (h : CmK w W cs stamp cr oc ob) (hb : Below W.heap.size W W') : CmK w W' cs stamp cr oc ob :=
 ⟨h.cm.below hb, fun x hx => ⟨(h.c x hx).1, blk_below (h.c x hx).2 hb⟩, fun x hx => ⟨(h.b x hx).1, blk_below (h.b x hx).2 hb⟩⟩
theorem CmK.row {w W : World} {cs cr : Array Value} {stamp : Int} {oc ob : Option Nat} (h : CmK w W cs stamp cr oc ob) : CmK w (W.alloc (.cells (List.replicate 8 (Value.slice none 0 0)).toArray 54)) cs stamp cr (some W.heap.size) ob :=
 have h' := h.below (below_alloc (Below.refl W.heap.size W) (.cells (List.replicate 8 (Value.slice none 0 0)).toArray 54))
 ⟨h'.cm, fun x hx => by injection hx with hx; subst hx; exact ⟨h.size, blk_new _ _⟩, h'.b⟩
theorem CmK.var {w W : World} {cs cr : Array Value} {stamp : Int} {oc ob : Option Nat} (h : CmK w W cs stamp cr oc ob) : CmK w (W.alloc (.cells #[.slice none 0 0, .int .i64 0, .slice none 0 0] 25)) cs stamp cr oc (some W.heap.size) :=
 have h' := h.below (below_alloc (Below.refl W.heap.size W) (.cells #[.slice none 0 0, .int .i64 0, .slice none 0 0] 25))
 ⟨h'.cm, h'.c, fun x hx => by injection hx with hx; subst hx; exact ⟨h.size, blk_new _ _⟩⟩
set_option maxHeartbeats 8000000 in
set_option maxRecDepth 100000 in
theorem store_Commit.calls (k : Nat) (P0_0_ : Nat → Prop) (A0_0 : Option Addr) (c0_0 : Nat) (l0_0 : List (List S74)) (a0_1 : Int) (P0_2_ : Nat → Prop) (A0_2 : Option Addr) (c0_2 : Nat) (l0_2 : List Int) (a1 : Int) (A2 : Option Addr) (c2 : Nat) (l2 : List Int) (A3 : Option Addr) (c3 : Nat) (l3 : List S42) (r1 : List (List S74)) (r2 : Int) (r3 : List Int) (r4 : Int) (w : World) (hs0_0 : Kd.V (Kd.slice 74 k74) 54 w w.heap.size (fun k_ => P0_0_ k_) (.slice A0_0 l0_0.length c0_0) l0_0) (hs0_2 : Kd.V (Kd.int .i64) 3 w w.heap.size (fun k_ => P0_2_ k_) (.slice A0_2 l0_2.length c0_2) l0_2) (hr2 : Kd.C (Kd.int .i64) w A2 l2.length l2) (hc2 : l2.length ≤ c2) (hr3 : Kd.C k42 w A3 l3.length l3) (hc3 : l3.length ≤ c3) (h : store_Commit.f k l0_0 a0_1 l0_2 a1 l2 l3 = some (r1, r2, r3, r4)) :
  Calls Try.prog 10 #[.agg #[.slice A0_0 l0_0.length c0_0, .int .i64 a0_1, .slice A0_2 l0_2.length c0_2], .int .i64 a1, .slice A2 l2.length c2, .slice A3 l3.length c3] w fun e w' => ∃ v0_ v2_ : Value, e = .returned (.tuple #[.agg #[v0_, .int .i64 r2, v2_], .int .i64 r4]) ∧ Kd.V (Kd.slice 74 k74) 54 w' w.heap.size (fun k_ => ((P0_0_ k_ ∨ P0_2_ k_) ∨ w.heap.size ≤ k_)) v0_ r1 ∧ Kd.V (Kd.int .i64) 3 w' w.heap.size (fun k_ => ((P0_0_ k_ ∨ P0_2_ k_) ∨ w.heap.size ≤ k_)) v2_ r3 ∧ Below w.heap.size w w' := by
 have hu25 := Try.underlying25
 have hR0 := Kd.V_reads' hs0_0
 have hR2 := Kd.V_reads' hs0_2
 have HV0 := Aside0.mk (show ∀ W : World, Below w.heap.size w W → Kd.V (Kd.slice 74 k74) 54 W w.heap.size (fun k_ => ((P0_0_ k_ ∨ P0_2_ k_) ∨ w.heap.size ≤ k_)) (.slice A0_0 l0_0.length c0_0) l0_0 from fun W hW => Kd.V_mono (Kd.V_below hs0_0 hW) (fun _ hk => .inl (.inl hk)))
 have HV2 := Aside0.mk (show ∀ W : World, Below w.heap.size w W → Kd.V (Kd.int .i64) 3 W w.heap.size (fun k_ => ((P0_0_ k_ ∨ P0_2_ k_) ∨ w.heap.size ≤ k_)) (.slice A0_2 l0_2.length c0_2) l0_2 from fun W hW => Kd.V_mono (Kd.V_below hs0_2 hW) (fun _ hk => .inl (.inr hk)))
 have HR0 := Aside0.mk hR0.2.2
 have HC0 := Aside0.mk hR0.2.1
 have HR2 := Aside0.mk hR2.2.2
 have HC2 := Aside0.mk hR2.2.1
 have HQ2 := Aside0.mk hr2
 have HD2 := Aside0.mk hc2
 have HQ3 := Aside0.mk hr3
 have HD3 := Aside0.mk hc3
 have HS0 := Aside0.mk (CmB.start w #[.slice A0_0 l0_0.length c0_0, .int .i64 a0_1, .slice A0_2 l0_2.length c0_2] #[.slice none 0 0, .int .i64 0, .slice none 0 0] a1)
 clear hs0_0 hs0_2 hR0 hR2 hr2 hc2 hr3 hc3
 unfold store_Commit.f at h
 obtain ⟨⟨al, okb⟩, hn, h⟩ := Option.bind_eq_some_iff.mp h
 have HN := Aside0.mk hn
 clear hn
 cases okb with
 | false =>
  rw [if_neg (show ¬ (false = true) by decide)] at h
  simp only [Option.some.injEq, Prod.mk.injEq] at h
  obtain ⟨rfl, rfl, rfl, rfl⟩ := h
  go_enter Try.func10, Try.ntmps10
  go_wp2_with (go_at_call 31; refine (store_named.calls A2 c2 l2 A3 c3 l3 al false _ ?s1 HD2.out ?s2 HD3.out HN.out).mono ?_; (case s1 => exact Kd.C_below HQ2.out HS0.out.bel); (case s2 => exact Kd.C_below HQ3.out HS0.out.bel); rintro e w2 ⟨va, rfl, hra, hd⟩; have HRA := Aside0.mk hra; have HS := Aside0.mk (HS0.out.below hd); have x0 := (blk_cell HS.out.bs 0).trans rfl; have x1 := (blk_cell HS.out.bs 1).trans rfl; have x2 := (blk_cell HS.out.bs 2).trans rfl; have t0 := (blk_cell HS.out.bt 0).trans rfl; have y0 := (blk_cell HS.out.br 0).trans rfl; have y1 := (blk_cell HS.out.br 1).trans rfl; have y2 := (blk_cell HS.out.br 2).trans rfl; have f0 := blk_frozen HS.out.br 0; have f1 := blk_frozen HS.out.br 1; have f2 := blk_frozen HS.out.br 2; clear hra hd)
  have HF := Aside0.mk (((HS.out.put 0 (.slice A0_0 l0_0.length c0_0) rfl).put 1 (.int .i64 a0_1) rfl).put 2 (.slice A0_2 l0_2.length c0_2) rfl)
  refine bodyPost_ret (results_ct rfl _ _ (w.heap.size + 2) 25 #[.slice A0_0 l0_0.length c0_0, .int .i64 a0_1, .slice A0_2 l0_2.length c0_2] (0, 0) _ rfl HF.out.br Try.underlying25 rfl (by kernel_rfl)) rfl ?_
  exact ⟨_, _, rfl, HV0.out _ HF.out.bel, HV2.out _ HF.out.bel, HF.out.bel⟩
 | true =>
  rw [if_pos rfl] at h
  obtain ⟨hpar, hpar3⟩ := named_par HN.out
  have HPar := Aside0.mk hpar
  have HPar3 := Aside0.mk hpar3
  clear hpar hpar3
  obtain ⟨tc, ht, h⟩ := Option.bind_eq_some_iff.mp h
  have HT := Aside0.mk ht
  clear ht
  cases tc with
  | false =>
   rw [if_neg (show ¬ (false = true) by decide)] at h
   simp only [Option.some.injEq, Prod.mk.injEq] at h
   obtain ⟨rfl, rfl, rfl, rfl⟩ := h
   go_enter Try.func10, Try.ntmps10
   go_wp2_with (first | (go_at_call 31; refine (store_named.calls A2 c2 l2 A3 c3 l3 al true _ ?s1 HD2.out ?s2 HD3.out HN.out).mono ?_; (case s1 => exact Kd.C_below HQ2.out HS0.out.bel); (case s2 => exact Kd.C_below HQ3.out HS0.out.bel); rintro e w2 ⟨va, rfl, hra, hd⟩; have HS := Aside0.mk (HS0.out.below hd); have HRA := Aside0.mk hra; have x0 := (blk_cell HS.out.bs 0).trans rfl; have x1 := (blk_cell HS.out.bs 1).trans rfl; have x2 := (blk_cell HS.out.bs 2).trans rfl; have t0 := (blk_cell HS.out.bt 0).trans rfl; have y0 := (blk_cell HS.out.br 0).trans rfl; have y1 := (blk_cell HS.out.br 1).trans rfl; have y2 := (blk_cell HS.out.br 2).trans rfl; have f0 := blk_frozen HS.out.br 0; have f1 := blk_frozen HS.out.br 1; have f2 := blk_frozen HS.out.br 2; clear hra hd) | (go_at_call 9; refine (store_Check.calls k A0_0 c0_0 l0_0 a0_1 A0_2 c0_2 l0_2 false _ ?s1 HC0.out ?s2 HC2.out HT.out).mono ?_; (case s1 => exact Kd.C_below HR0.out HS.out.bel); (case s2 => exact Kd.C_below HR2.out HS.out.bel); rintro e w3 ⟨rfl, hd⟩; replace HRA := Aside0.mk (Kd.R_below HRA.out hd); replace HS := Aside0.mk (HS.out.below hd); clear x0 x1 x2 t0 y0 y1 y2 f0 f1 f2; have x0 := (blk_cell HS.out.bs 0).trans rfl; have x1 := (blk_cell HS.out.bs 1).trans rfl; have x2 := (blk_cell HS.out.bs 2).trans rfl; have t0 := (blk_cell HS.out.bt 0).trans rfl; have y0 := (blk_cell HS.out.br 0).trans rfl; have y1 := (blk_cell HS.out.br 1).trans rfl; have y2 := (blk_cell HS.out.br 2).trans rfl; have f0 := blk_frozen HS.out.br 0; have f1 := blk_frozen HS.out.br 1; have f2 := blk_frozen HS.out.br 2; clear hd))
   have HF := Aside0.mk (((HS.out.put 0 (.slice A0_0 l0_0.length c0_0) rfl).put 1 (.int .i64 a0_1) rfl).put 2 (.slice A0_2 l0_2.length c0_2) rfl)
   refine bodyPost_ret (results_ct rfl _ _ (w.heap.size + 2) 25 #[.slice A0_0 l0_0.length c0_0, .int .i64 a0_1, .slice A0_2 l0_2.length c0_2] (0, 0) _ rfl HF.out.br Try.underlying25 rfl (by kernel_rfl)) rfl ?_
   exact ⟨_, _, rfl, HV0.out _ HF.out.bel, HV2.out _ HF.out.bel, HF.out.bel⟩
  | true =>
   rw [if_pos rfl] at h
   have HL8 := Aside0.mk (check_len HT.out)
   by_cases hl : a0_1 = 1099511627776
   ·rw [if_pos hl] at h
    simp only [Option.some.injEq, Prod.mk.injEq] at h
    obtain ⟨rfl, rfl, rfl, rfl⟩ := h
    have b0 : (a0_1 == 1099511627776) = true := beq_iff_eq.mpr hl
    clear hl
    go_enter Try.func10, Try.ntmps10
    go_wp2_with (first | (go_at_call 31; refine (store_named.calls A2 c2 l2 A3 c3 l3 al true _ ?s1 HD2.out ?s2 HD3.out HN.out).mono ?_; (case s1 => exact Kd.C_below HQ2.out HS0.out.bel); (case s2 => exact Kd.C_below HQ3.out HS0.out.bel); rintro e w2 ⟨va, rfl, hra, hd⟩; have HS := Aside0.mk (HS0.out.below hd); have HRA := Aside0.mk hra; have x0 := (blk_cell HS.out.bs 0).trans rfl; have x1 := (blk_cell HS.out.bs 1).trans rfl; have x2 := (blk_cell HS.out.bs 2).trans rfl; have t0 := (blk_cell HS.out.bt 0).trans rfl; have y0 := (blk_cell HS.out.br 0).trans rfl; have y1 := (blk_cell HS.out.br 1).trans rfl; have y2 := (blk_cell HS.out.br 2).trans rfl; have f0 := blk_frozen HS.out.br 0; have f1 := blk_frozen HS.out.br 1; have f2 := blk_frozen HS.out.br 2; clear hra hd) | (go_at_call 9; refine (store_Check.calls k A0_0 c0_0 l0_0 a0_1 A0_2 c0_2 l0_2 true _ ?s1 HC0.out ?s2 HC2.out HT.out).mono ?_; (case s1 => exact Kd.C_below HR0.out HS.out.bel); (case s2 => exact Kd.C_below HR2.out HS.out.bel); rintro e w3 ⟨rfl, hd⟩; replace HRA := Aside0.mk (Kd.R_below HRA.out hd); replace HS := Aside0.mk (HS.out.below hd); clear x0 x1 x2 t0 y0 y1 y2 f0 f1 f2; have x0 := (blk_cell HS.out.bs 0).trans rfl; have x1 := (blk_cell HS.out.bs 1).trans rfl; have x2 := (blk_cell HS.out.bs 2).trans rfl; have t0 := (blk_cell HS.out.bt 0).trans rfl; have y0 := (blk_cell HS.out.br 0).trans rfl; have y1 := (blk_cell HS.out.br 1).trans rfl; have y2 := (blk_cell HS.out.br 2).trans rfl; have f0 := blk_frozen HS.out.br 0; have f1 := blk_frozen HS.out.br 1; have f2 := blk_frozen HS.out.br 2; clear hd))
    have HF := Aside0.mk (((HS.out.put 0 (.slice A0_0 l0_0.length c0_0) rfl).put 1 (.int .i64 a0_1) rfl).put 2 (.slice A0_2 l0_2.length c0_2) rfl)
    refine bodyPost_ret (results_ct rfl _ _ (w.heap.size + 2) 25 #[.slice A0_0 l0_0.length c0_0, .int .i64 a0_1, .slice A0_2 l0_2.length c0_2] (0, 0) _ rfl HF.out.br Try.underlying25 rfl (by kernel_rfl)) rfl ?_
    exact ⟨_, _, rfl, HV0.out _ HF.out.bel, HV2.out _ HF.out.bel, HF.out.bel⟩
   ·rw [if_neg hl] at h
    have b0 : (a0_1 == 1099511627776) = false := beq_eq_false_iff_ne.mpr hl
    have HNL := Aside0.mk hl
    clear hl
    obtain ⟨⟨ba, bis⟩, hb, h⟩ := Option.bind_eq_some_iff.mp h
    have HBS := Aside0.mk hb
    clear hb
    cases bis with
    | false =>
     rw [if_neg (show ¬ (false = true) by decide)] at h
     simp only [Option.some.injEq, Prod.mk.injEq] at h
     obtain ⟨rfl, rfl, rfl, rfl⟩ := h
     go_enter Try.func10, Try.ntmps10
     go_wp2_with (first | (go_at_call 31; refine (store_named.calls A2 c2 l2 A3 c3 l3 al true _ ?s1 HD2.out ?s2 HD3.out HN.out).mono ?_; (case s1 => exact Kd.C_below HQ2.out HS0.out.bel); (case s2 => exact Kd.C_below HQ3.out HS0.out.bel); rintro e w2 ⟨va, rfl, hra, hd⟩; have HS := Aside0.mk (HS0.out.below hd); have HRA := Aside0.mk hra; have x0 := (blk_cell HS.out.bs 0).trans rfl; have x1 := (blk_cell HS.out.bs 1).trans rfl; have x2 := (blk_cell HS.out.bs 2).trans rfl; have t0 := (blk_cell HS.out.bt 0).trans rfl; have y0 := (blk_cell HS.out.br 0).trans rfl; have y1 := (blk_cell HS.out.br 1).trans rfl; have y2 := (blk_cell HS.out.br 2).trans rfl; have f0 := blk_frozen HS.out.br 0; have f1 := blk_frozen HS.out.br 1; have f2 := blk_frozen HS.out.br 2; clear hra hd) | (go_at_call 9; refine (store_Check.calls k A0_0 c0_0 l0_0 a0_1 A0_2 c0_2 l0_2 true _ ?s1 HC0.out ?s2 HC2.out HT.out).mono ?_; (case s1 => exact Kd.C_below HR0.out HS.out.bel); (case s2 => exact Kd.C_below HR2.out HS.out.bel); rintro e w3 ⟨rfl, hd⟩; replace HRA := Aside0.mk (Kd.R_below HRA.out hd); replace HS := Aside0.mk (HS.out.below hd); clear x0 x1 x2 t0 y0 y1 y2 f0 f1 f2; have x0 := (blk_cell HS.out.bs 0).trans rfl; have x1 := (blk_cell HS.out.bs 1).trans rfl; have x2 := (blk_cell HS.out.bs 2).trans rfl; have t0 := (blk_cell HS.out.bt 0).trans rfl; have y0 := (blk_cell HS.out.br 0).trans rfl; have y1 := (blk_cell HS.out.br 1).trans rfl; have y2 := (blk_cell HS.out.br 2).trans rfl; have f0 := blk_frozen HS.out.br 0; have f1 := blk_frozen HS.out.br 1; have f2 := blk_frozen HS.out.br 2; clear hd) | (go_at_call 32; refine (slices_BinarySearch_int_int.calls k A0_2 c0_2 l0_2 a1 ba false _ ?s1 HC2.out HBS.out).mono ?_; (case s1 => exact Kd.C_below HR2.out HS.out.bel); rintro e w4 ⟨rfl, hd0⟩; have hd := hd0.below; replace HRA := Aside0.mk (Kd.R_below HRA.out hd); replace HS := Aside0.mk (HS.out.below hd); clear x0 x1 x2 t0 y0 y1 y2 f0 f1 f2; have x0 := (blk_cell HS.out.bs 0).trans rfl; have x1 := (blk_cell HS.out.bs 1).trans rfl; have x2 := (blk_cell HS.out.bs 2).trans rfl; have t0 := (blk_cell HS.out.bt 0).trans rfl; have y0 := (blk_cell HS.out.br 0).trans rfl; have y1 := (blk_cell HS.out.br 1).trans rfl; have y2 := (blk_cell HS.out.br 2).trans rfl; have f0 := blk_frozen HS.out.br 0; have f1 := blk_frozen HS.out.br 1; have f2 := blk_frozen HS.out.br 2; clear hd hd0))
     have HF := Aside0.mk (((HS.out.put 0 (.slice A0_0 l0_0.length c0_0) rfl).put 1 (.int .i64 a0_1) rfl).put 2 (.slice A0_2 l0_2.length c0_2) rfl)
     refine bodyPost_ret (results_ct rfl _ _ (w.heap.size + 2) 25 #[.slice A0_0 l0_0.length c0_0, .int .i64 a0_1, .slice A0_2 l0_2.length c0_2] (0, 0) _ rfl HF.out.br Try.underlying25 rfl (by kernel_rfl)) rfl ?_
     exact ⟨_, _, rfl, HV0.out _ HF.out.bel, HV2.out _ HF.out.bel, HF.out.bel⟩
    | true =>
     rw [if_pos rfl] at h
     obtain ⟨st, hst, h⟩ := Option.bind_eq_some_iff.mp h
     obtain ⟨hq1, hq2⟩ := cmNewer_any k l0_0 a1 al st hst
     have HQ1 := Aside0.mk hq1
     have HQA := Aside0.mk hq2
     clear hst hq1 hq2
     have HClo := Aside0.mk (show ∀ W : World, CmB w W w.heap.size #[.slice A0_0 l0_0.length c0_0, .int .i64 a0_1, .slice A0_2 l0_2.length c0_2] a1 #[.slice none 0 0, .int .i64 0, .slice none 0 0] → ∀ p ∈ al, Calls Try.prog 33 (#[.int .i64 p] ++ #[.pointer (some ⟨w.heap.size, 0, none⟩), .pointer (some ⟨w.heap.size + 1, 0, none⟩)]) W fun e w' => e = .returned (.bool ((chain_Newer.f k (cAt l0_0 p) a1).getD false)) ∧ Below W.heap.size W w' from fun W hW p hp => by
      have h1 := HPar.out p hp
      simp only [isPar, Bool.and_eq_true, decide_eq_true_eq] at h1
      exact Commit1 k l0_0 a1 p _ (HQ1.out p hp) h1.1 (by have := HL8.out; omega) w.heap.size (w.heap.size + 1) A0_0 c0_0 W ((blk_cell hW.bs 0).trans rfl) ((blk_cell hW.bt 0).trans rfl) (Kd.C_below HR0.out hW.bel))
     cases st with
     | true =>
      rw [if_pos rfl] at h
      simp only [Option.some.injEq, Prod.mk.injEq] at h
      obtain ⟨rfl, rfl, rfl, rfl⟩ := h
      go_enter Try.func10, Try.ntmps10
      go_wp2_with (first | (go_at_call 31; refine (store_named.calls A2 c2 l2 A3 c3 l3 al true _ ?s1 HD2.out ?s2 HD3.out HN.out).mono ?_; (case s1 => exact Kd.C_below HQ2.out HS0.out.bel); (case s2 => exact Kd.C_below HQ3.out HS0.out.bel); rintro e w2 ⟨va, rfl, hra, hd⟩; have HS := Aside0.mk (HS0.out.below hd); have HRA := Aside0.mk hra; have x0 := (blk_cell HS.out.bs 0).trans rfl; have x1 := (blk_cell HS.out.bs 1).trans rfl; have x2 := (blk_cell HS.out.bs 2).trans rfl; have t0 := (blk_cell HS.out.bt 0).trans rfl; have y0 := (blk_cell HS.out.br 0).trans rfl; have y1 := (blk_cell HS.out.br 1).trans rfl; have y2 := (blk_cell HS.out.br 2).trans rfl; have f0 := blk_frozen HS.out.br 0; have f1 := blk_frozen HS.out.br 1; have f2 := blk_frozen HS.out.br 2; clear hra hd) | (go_at_call 9; refine (store_Check.calls k A0_0 c0_0 l0_0 a0_1 A0_2 c0_2 l0_2 true _ ?s1 HC0.out ?s2 HC2.out HT.out).mono ?_; (case s1 => exact Kd.C_below HR0.out HS.out.bel); (case s2 => exact Kd.C_below HR2.out HS.out.bel); rintro e w3 ⟨rfl, hd⟩; replace HRA := Aside0.mk (Kd.R_below HRA.out hd); replace HS := Aside0.mk (HS.out.below hd); clear x0 x1 x2 t0 y0 y1 y2 f0 f1 f2; have x0 := (blk_cell HS.out.bs 0).trans rfl; have x1 := (blk_cell HS.out.bs 1).trans rfl; have x2 := (blk_cell HS.out.bs 2).trans rfl; have t0 := (blk_cell HS.out.bt 0).trans rfl; have y0 := (blk_cell HS.out.br 0).trans rfl; have y1 := (blk_cell HS.out.br 1).trans rfl; have y2 := (blk_cell HS.out.br 2).trans rfl; have f0 := blk_frozen HS.out.br 0; have f1 := blk_frozen HS.out.br 1; have f2 := blk_frozen HS.out.br 2; clear hd) | (go_at_call 32; refine (slices_BinarySearch_int_int.calls k A0_2 c0_2 l0_2 a1 ba true _ ?s1 HC2.out HBS.out).mono ?_; (case s1 => exact Kd.C_below HR2.out HS.out.bel); rintro e w4 ⟨rfl, hd0⟩; have hd := hd0.below; replace HRA := Aside0.mk (Kd.R_below HRA.out hd); replace HS := Aside0.mk (HS.out.below hd); clear x0 x1 x2 t0 y0 y1 y2 f0 f1 f2; have x0 := (blk_cell HS.out.bs 0).trans rfl; have x1 := (blk_cell HS.out.bs 1).trans rfl; have x2 := (blk_cell HS.out.bs 2).trans rfl; have t0 := (blk_cell HS.out.bt 0).trans rfl; have y0 := (blk_cell HS.out.br 0).trans rfl; have y1 := (blk_cell HS.out.br 1).trans rfl; have y2 := (blk_cell HS.out.br 2).trans rfl; have f0 := blk_frozen HS.out.br 0; have f1 := blk_frozen HS.out.br 1; have f2 := blk_frozen HS.out.br 2; clear hd hd0) | (go_at_call 30; obtain ⟨Aa, ca, ea⟩ := Kd.R_slice HRA.out; subst ea; (with_reducible refine (slices_ContainsFunc_int_int.by_ (fun p => (chain_Newer.f k (cAt l0_0 p) a1).getD false) 33 #[.pointer (some ⟨w.heap.size, 0, none⟩), .pointer (some ⟨w.heap.size + 1, 0, none⟩)] Aa ca al _ ?s1 ?s2 ?s3).mono ?_); (case s1 => exact (Kd.R_reads' HRA.out).2.2); (case s2 => exact enters_ Try.prog Try.func33 (by kernel_rfl) rfl); (case s3 => exact (fun W x hx hb => HClo.out W (HS.out.below hb) x hx)); rintro e w5 ⟨rfl, hd⟩; rw [← HQA.out]; replace HS := Aside0.mk (HS.out.below hd); clear x0 x1 x2 t0 y0 y1 y2 f0 f1 f2; have x0 := (blk_cell HS.out.bs 0).trans rfl; have x1 := (blk_cell HS.out.bs 1).trans rfl; have x2 := (blk_cell HS.out.bs 2).trans rfl; have t0 := (blk_cell HS.out.bt 0).trans rfl; have y0 := (blk_cell HS.out.br 0).trans rfl; have y1 := (blk_cell HS.out.br 1).trans rfl; have y2 := (blk_cell HS.out.br 2).trans rfl; have f0 := blk_frozen HS.out.br 0; have f1 := blk_frozen HS.out.br 1; have f2 := blk_frozen HS.out.br 2; clear hd))
      have HF := Aside0.mk (((HS.out.put 0 (.slice A0_0 l0_0.length c0_0) rfl).put 1 (.int .i64 a0_1) rfl).put 2 (.slice A0_2 l0_2.length c0_2) rfl)
      refine bodyPost_ret (results_ct rfl _ _ (w.heap.size + 2) 25 #[.slice A0_0 l0_0.length c0_0, .int .i64 a0_1, .slice A0_2 l0_2.length c0_2] (0, 0) _ rfl HF.out.br Try.underlying25 rfl (by kernel_rfl)) rfl ?_
      exact ⟨_, _, rfl, HV0.out _ HF.out.bel, HV2.out _ HF.out.bel, HF.out.bel⟩
     | false =>
      rw [if_neg (show ¬ (false = true) by decide)] at h
      have H := Aside0.mk h
      clear h
      go_enter Try.func10, Try.ntmps10
      go_upto_region 9 with (first | (go_at_call 31; refine (store_named.calls A2 c2 l2 A3 c3 l3 al true _ ?s1 HD2.out ?s2 HD3.out HN.out).mono ?_; (case s1 => exact Kd.C_below HQ2.out HS0.out.bel); (case s2 => exact Kd.C_below HQ3.out HS0.out.bel); rintro e w2 ⟨va, rfl, hra, hd⟩; have HS := Aside0.mk (HS0.out.below hd); have HRA := Aside0.mk hra; have x0 := (blk_cell HS.out.bs 0).trans rfl; have x1 := (blk_cell HS.out.bs 1).trans rfl; have x2 := (blk_cell HS.out.bs 2).trans rfl; have t0 := (blk_cell HS.out.bt 0).trans rfl; have y0 := (blk_cell HS.out.br 0).trans rfl; have y1 := (blk_cell HS.out.br 1).trans rfl; have y2 := (blk_cell HS.out.br 2).trans rfl; have f0 := blk_frozen HS.out.br 0; have f1 := blk_frozen HS.out.br 1; have f2 := blk_frozen HS.out.br 2; clear hra hd) | (go_at_call 9; refine (store_Check.calls k A0_0 c0_0 l0_0 a0_1 A0_2 c0_2 l0_2 true _ ?s1 HC0.out ?s2 HC2.out HT.out).mono ?_; (case s1 => exact Kd.C_below HR0.out HS.out.bel); (case s2 => exact Kd.C_below HR2.out HS.out.bel); rintro e w3 ⟨rfl, hd⟩; replace HRA := Aside0.mk (Kd.R_below HRA.out hd); replace HS := Aside0.mk (HS.out.below hd); clear x0 x1 x2 t0 y0 y1 y2 f0 f1 f2; have x0 := (blk_cell HS.out.bs 0).trans rfl; have x1 := (blk_cell HS.out.bs 1).trans rfl; have x2 := (blk_cell HS.out.bs 2).trans rfl; have t0 := (blk_cell HS.out.bt 0).trans rfl; have y0 := (blk_cell HS.out.br 0).trans rfl; have y1 := (blk_cell HS.out.br 1).trans rfl; have y2 := (blk_cell HS.out.br 2).trans rfl; have f0 := blk_frozen HS.out.br 0; have f1 := blk_frozen HS.out.br 1; have f2 := blk_frozen HS.out.br 2; clear hd) | (go_at_call 32; refine (slices_BinarySearch_int_int.calls k A0_2 c0_2 l0_2 a1 ba true _ ?s1 HC2.out HBS.out).mono ?_; (case s1 => exact Kd.C_below HR2.out HS.out.bel); rintro e w4 ⟨rfl, hd0⟩; have hd := hd0.below; replace HRA := Aside0.mk (Kd.R_below HRA.out hd); replace HS := Aside0.mk (HS.out.below hd); clear x0 x1 x2 t0 y0 y1 y2 f0 f1 f2; have x0 := (blk_cell HS.out.bs 0).trans rfl; have x1 := (blk_cell HS.out.bs 1).trans rfl; have x2 := (blk_cell HS.out.bs 2).trans rfl; have t0 := (blk_cell HS.out.bt 0).trans rfl; have y0 := (blk_cell HS.out.br 0).trans rfl; have y1 := (blk_cell HS.out.br 1).trans rfl; have y2 := (blk_cell HS.out.br 2).trans rfl; have f0 := blk_frozen HS.out.br 0; have f1 := blk_frozen HS.out.br 1; have f2 := blk_frozen HS.out.br 2; clear hd hd0) | (go_at_call 30; obtain ⟨Aa, ca, ea⟩ := Kd.R_slice HRA.out; subst ea; (with_reducible refine (slices_ContainsFunc_int_int.by_ (fun p => (chain_Newer.f k (cAt l0_0 p) a1).getD false) 33 #[.pointer (some ⟨w.heap.size, 0, none⟩), .pointer (some ⟨w.heap.size + 1, 0, none⟩)] Aa ca al _ ?s1 ?s2 ?s3).mono ?_); (case s1 => exact (Kd.R_reads' HRA.out).2.2); (case s2 => exact enters_ Try.prog Try.func33 (by kernel_rfl) rfl); (case s3 => exact (fun W x hx hb => HClo.out W (HS.out.below hb) x hx)); rintro e w5 ⟨rfl, hd⟩; rw [← HQA.out]; replace HS := Aside0.mk (HS.out.below hd); clear x0 x1 x2 t0 y0 y1 y2 f0 f1 f2; have x0 := (blk_cell HS.out.bs 0).trans rfl; have x1 := (blk_cell HS.out.bs 1).trans rfl; have x2 := (blk_cell HS.out.bs 2).trans rfl; have t0 := (blk_cell HS.out.bt 0).trans rfl; have y0 := (blk_cell HS.out.br 0).trans rfl; have y1 := (blk_cell HS.out.br 1).trans rfl; have y2 := (blk_cell HS.out.br 2).trans rfl; have f0 := blk_frozen HS.out.br 0; have f1 := blk_frozen HS.out.br 1; have f2 := blk_frozen HS.out.br 2; clear hd))
      clear x0 x1 x2 t0 y0 y1 y2 f0 f1 f2 HClo HQA HQ1
      have HI := Aside0.mk (show CmK w w5.drew #[.slice A0_0 l0_0.length c0_0, .int .i64 a0_1, .slice A0_2 l0_2.length c0_2] a1 #[.slice none 0 0, .int .i64 0, .slice none 0 0] none none from ⟨HS.out.drew, (fun x hx => by cases hx), (fun x hx => by cases hx)⟩)
      have h8 : ((l0_0.length : Int)) = 8 := by have := HL8.out; omega
      clear HS
      refine start_ (n := 12) (S := fun w' => w'.cell? ⟨w.heap.size, 0, none⟩ = some (.slice A0_0 l0_0.length c0_0) ∧ w'.cell? ⟨w.heap.size, 1, none⟩ = some (.int .i64 a0_1) ∧ w'.cell? ⟨w.heap.size, 2, none⟩ = some (.slice A0_2 l0_2.length c0_2)) (ds := [11]) #[false, false, false, false, false, false, false, false, false, false, false, false] (by kernel_rfl) rfl rfl ⟨(blk_cell HI.out.cm.bs 0).trans rfl, (blk_cell HI.out.cm.bs 1).trans rfl, (blk_cell HI.out.cm.bs 2).trans rfl⟩ (fun hHeld => ?_)
      generalize w5.drew = W at HI hHeld ⊢
      refine pure_ (i := 0) (N := some 52) (v := ?_) (a' := ?_) #[true, false, false, false, false, false, false, false, false, false, false, false] rfl rfl (by kernel_rfl) (fun _ _ _ h => h) (Or.inl ⟨by rfl, ?_⟩) ?_ ?_
      rotate_left
      ·intro w'
       go_simp
       with_reducible rfl
      rotate_left
      ·simp only [Act.put, sA_, sB_, sC_, i64_w, i32_w]
       rfl
      refine take_ (i := 1) (N := some 53) (v := ?_) (a' := ?_) #[true, true, false, false, false, false, false, false, false, false, false, false] rfl rfl (by kernel_rfl) (fun _ _ _ h => h) (Or.inl ⟨by rfl, ?_⟩) hHeld ?_ ?_
      rotate_left
      ·rintro w' ⟨s0, s1, s2⟩
       go_simp
       with_reducible rfl
      rotate_left
      ·simp only [Act.put, sA_, sB_, sC_, i64_w, i32_w]
       rfl
      refine pure_ (i := 2) (N := some 54) (v := ?_) (a' := ?_) #[true, true, true, false, false, false, false, false, false, false, false, false] rfl rfl (by kernel_rfl) (fun _ _ _ h => h) (Or.inl ⟨by rfl, ?_⟩) ?_ ?_
      rotate_left
      ·intro w'
       go_simp
       with_reducible rfl
      rotate_left
      ·simp only [Act.put, sA_, sB_, sC_, i64_w, i32_w]
       rfl
      refine pure_ (i := 4) (N := some 56) (v := ?_) (a' := ?_) #[true, true, true, false, true, false, false, false, false, false, false, false] rfl rfl (by kernel_rfl) (fun _ _ _ h => h) (Or.inl ⟨by rfl, ?_⟩) ?_ ?_
      rotate_left
      ·intro w'
       go_simp
       with_reducible rfl
      rotate_left
      ·simp only [Act.put, sA_, sB_, sC_, i64_w, i32_w]
       rfl
      refine take_ (i := 5) (N := some 57) (v := ?_) (a' := ?_) #[true, true, true, false, true, true, false, false, false, false, false, false] rfl rfl (by kernel_rfl) (fun _ _ _ h => h) (Or.inl ⟨by rfl, ?_⟩) hHeld ?_ ?_
      rotate_left
      ·rintro w' ⟨s0, s1, s2⟩
       go_simp
       with_reducible rfl
      rotate_left
      ·simp only [Act.put, sA_, sB_, sC_, i64_w, i32_w]
       rfl
      refine pure_ (i := 6) (N := some 58) (v := ?_) (a' := ?_) #[true, true, true, false, true, true, true, false, false, false, false, false] rfl rfl (by kernel_rfl) (fun _ _ _ h => h) (Or.inl ⟨by rfl, ?_⟩) ?_ ?_
      rotate_left
      ·intro w'
       go_simp
       with_reducible rfl
      rotate_left
      ·simp only [Act.put, sA_, sB_, sC_, i64_w, i32_w]
       rfl
      refine pure_ (i := 7) (N := some 59) (v := ?_) (a' := ?_) #[true, true, true, false, true, true, true, true, false, false, false, false] rfl rfl (by kernel_rfl) (fun _ _ _ h => h) (Or.inl ⟨by rfl, ?_⟩) ?_ ?_
      rotate_left
      ·intro w'
       go_simp
       with_reducible rfl
      rotate_left
      ·simp only [Act.put, sA_, sB_, sC_, i64_w, i32_w]
       rfl
      refine take_ (i := 8) (N := some 60) (v := ?_) (a' := ?_) #[true, true, true, false, true, true, true, true, true, false, false, false] rfl rfl (by kernel_rfl) (fun _ _ _ h => h) (Or.inl ⟨by rfl, ?_⟩) hHeld ?_ ?_
      rotate_left
      ·rintro w' ⟨s0, s1, s2⟩
       go_simp
       with_reducible rfl
      rotate_left
      ·simp only [Act.put, sA_, sB_, sC_, i64_w, i32_w]
       rfl
      refine join_ (σ := Nat × Nat) 1 #[true, true, true, true, true, true, true, true, true, true, true, false] (fun s => [(55, .slice (some ⟨s.1, 0, none⟩) 8 8), (61, .agg #[.slice (some ⟨s.1, 0, none⟩) 8 8, .int .i64 (wrap64 (a0_1 + 1)), .slice A0_2 l0_2.length c0_2]), (14, .pointer (some ⟨s.2, 0, none⟩))]) (fun s w' => CmK w w' #[.slice A0_0 l0_0.length c0_0, .int .i64 a0_1, .slice A0_2 l0_2.length c0_2] a1 #[.slice none 0 0, .int .i64 0, .slice none 0 0] (some s.1) (some s.2)) ?hcont ?hords
      case hords =>
       intro hfin
       refine two_ (i := 3) (j := 10) (Ni := some 55) (Nj := some 14) #[true, true, true, true, true, true, true, true, true, false, false, false] #[true, true, true, false, true, true, true, true, true, false, true, false] rfl rfl rfl rfl (by kernel_rfl) (by decide) (by decide) (fun K hK => ?_) (fun K hK => ?_)
       ·refine val_stepc (v := _) (w1 := _) (by rfl) rfl (cm_mk _ rfl (by first | rfl | (show Value.int .i64 (l0_0.length : Int) = _; rw [h8]))) ?_
        replace HI := Aside0.mk HI.out.row
        generalize World.alloc _ (Obj.cells (List.replicate 8 (Value.slice none 0 0)).toArray 54) = X at HI ⊢
        refine hK.out _ _ ⟨(blk_cell HI.out.cm.bs 0).trans rfl, (blk_cell HI.out.cm.bs 1).trans rfl, (blk_cell HI.out.cm.bs 2).trans rfl⟩ (fun hHeld => ?_)
        clear hK K
        refine norm_ (a' := ?_) ?_ ?_
        rotate_left
        ·show Act.put _ (some 55) _ = _
         simp only [Act.put, sA_, sB_, sC_, i64_w, i32_w]
         rfl
        refine pure_ (i := 9) (N := some 61) (v := ?_) (a' := ?_) #[true, true, true, true, true, true, true, true, true, true, false, false] rfl rfl (by kernel_rfl) (fun _ _ _ h => h) (Or.inl ⟨by rfl, ?_⟩) ?_ ?_
        rotate_left
        ·intro w'
         go_simp
         with_reducible rfl
        rotate_left
        ·simp only [Act.put, sA_, sB_, sC_, i64_w, i32_w]
         rfl
        refine one_ (i := 10) (N := some 14) #[true, true, true, true, true, true, true, true, true, true, true, false] rfl rfl (by kernel_rfl) (by decide) (fun K hK => ?_)
        refine val_stepc (v := _) (w1 := _) (by rfl) rfl (cm_al _ rfl) ?_
        replace HI := Aside0.mk HI.out.var
        generalize World.alloc _ (Obj.cells #[Value.slice none 0 0, Value.int IntKind.i64 0, Value.slice none 0 0] 25) = X at HI ⊢
        refine hK.out _ _ ⟨(blk_cell HI.out.cm.bs 0).trans rfl, (blk_cell HI.out.cm.bs 1).trans rfl, (blk_cell HI.out.cm.bs 2).trans rfl⟩ (fun hHeld => ?_)
        clear hK K
        refine norm_ (a' := ?_) ?_ ?_
        rotate_left
        ·show Act.put _ (some 14) _ = _
         simp only [Act.put, sA_, sB_, sC_, i64_w, i32_w]
         rfl
        have hfin2 := hfin (_, _) _ HI.out
        exact hfin2
       ·refine val_stepc (v := _) (w1 := _) (by rfl) rfl (cm_al _ rfl) ?_
        replace HI := Aside0.mk HI.out.var
        generalize World.alloc _ (Obj.cells #[Value.slice none 0 0, Value.int IntKind.i64 0, Value.slice none 0 0] 25) = X at HI ⊢
        refine hK.out _ _ ⟨(blk_cell HI.out.cm.bs 0).trans rfl, (blk_cell HI.out.cm.bs 1).trans rfl, (blk_cell HI.out.cm.bs 2).trans rfl⟩ (fun hHeld => ?_)
        clear hK K
        refine norm_ (a' := ?_) ?_ ?_
        rotate_left
        ·show Act.put _ (some 14) _ = _
         simp only [Act.put, sA_, sB_, sC_, i64_w, i32_w]
         rfl
        refine one_ (i := 3) (N := some 55) #[true, true, true, true, true, true, true, true, true, false, true, false] rfl rfl (by kernel_rfl) (by decide) (fun K hK => ?_)
        refine val_stepc (v := _) (w1 := _) (by rfl) rfl (cm_mk _ rfl (by first | rfl | (show Value.int .i64 (l0_0.length : Int) = _; rw [h8]))) ?_
        replace HI := Aside0.mk HI.out.row
        generalize World.alloc _ (Obj.cells (List.replicate 8 (Value.slice none 0 0)).toArray 54) = X at HI ⊢
        refine hK.out _ _ ⟨(blk_cell HI.out.cm.bs 0).trans rfl, (blk_cell HI.out.cm.bs 1).trans rfl, (blk_cell HI.out.cm.bs 2).trans rfl⟩ (fun hHeld => ?_)
        clear hK K
        refine norm_ (a' := ?_) ?_ ?_
        rotate_left
        ·show Act.put _ (some 55) _ = _
         simp only [Act.put, sA_, sB_, sC_, i64_w, i32_w]
         rfl
        refine pure_ (i := 9) (N := some 61) (v := ?_) (a' := ?_) #[true, true, true, true, true, true, true, true, true, true, true, false] rfl rfl (by kernel_rfl) (fun _ _ _ h => h) (Or.inl ⟨by rfl, ?_⟩) ?_ ?_
        rotate_left
        ·intro w'
         go_simp
         with_reducible rfl
        rotate_left
        ·simp only [Act.put, sA_, sB_, sC_, i64_w, i32_w]
         rfl
        have hfin2 := hfin (_, _) _ HI.out
        exact hfin2
      case hcont =>
       rintro ⟨gc, gb⟩ X HI
       replace HI := Aside0.mk (show CmK w X #[.slice A0_0 l0_0.length c0_0, .int .i64 a0_1, .slice A0_2 l0_2.length c0_2] a1 #[.slice none 0 0, .int .i64 0, .slice none 0 0] (some gc) (some gb) from HI)
       refine norm_ (a' := ?_) ?_ ?_
       rotate_left
       ·show putAll _ [(55, .slice (some ⟨gc, 0, none⟩) 8 8), (61, .agg #[.slice (some ⟨gc, 0, none⟩) 8 8, .int .i64 (wrap64 (a0_1 + 1)), .slice A0_2 l0_2.length c0_2]), (14, .pointer (some ⟨gb, 0, none⟩))] = _
        simp only [putAll, Act.put, sA_, sB_, sC_]
        rfl
       refine last_ (i := 11) (N := none) #[true, true, true, true, true, true, true, true, true, true, true, true] rfl rfl (by kernel_rfl) (by decide) (fun K hK => ?_)
       have hb := (HI.out.b gb rfl).2
       have y0 := (blk_cell hb 0).trans rfl
       have y1 := (blk_cell hb 1).trans rfl
       have y2 := (blk_cell hb 2).trans rfl
       have f0 := blk_frozen hb 0
       have f1 := blk_frozen hb 1
       have f2 := blk_frozen hb 2
       refine skip_ (w1 := ?_) (by rfl) rfl ?_ ?_
       rotate_left
       ·go_simp
        rfl
       refine hK.out _ _ ?_
       clear hK K
       refine done_ (by kernel_rfl) ?_
       have hc := HI.out.c gc rfl
       have hbg := HI.out.b gb rfl
       have hne : gc ≠ gb := fun e => by
        have h3 := hc.2
        rw [e, hbg.2] at h3
        injection h3 with h3
        injection h3 with h3 h4
        cases h4
       have hcm := Aside0.mk (((HI.out.cm.far hbg.1 0 (.slice (some ⟨gc, 0, none⟩) 8 8)).far hbg.1 1 (.int .i64 (wrap64 (a0_1 + 1)))).far hbg.1 2 (.slice A0_2 l0_2.length c0_2))
       have hout := Aside0.mk (blk_put (blk_put (blk_put hbg.2 0 (.slice (some ⟨gc, 0, none⟩) 8 8) rfl) 1 (.int .i64 (wrap64 (a0_1 + 1))) rfl) 2 (.slice A0_2 l0_2.length c0_2) rfl)
       have hrow : (((X.setCell ⟨gb, 0, none⟩ (.slice (some ⟨gc, 0, none⟩) 8 8)).setCell ⟨gb, 1, none⟩ (.int .i64 (wrap64 (a0_1 + 1)))).setCell ⟨gb, 2, none⟩ (.slice A0_2 l0_2.length c0_2)).heap[gc]? = some (.cells (List.replicate 8 (Value.slice none 0 0)).toArray 54 (0, 0)) := ((Below.heap_setCell _ ⟨gb, 2, none⟩ _ gc hne).trans ((Below.heap_setCell _ ⟨gb, 1, none⟩ _ gc hne).trans (Below.heap_setCell _ ⟨gb, 0, none⟩ _ gc hne))).trans hc.2
       have HRow := Aside0.mk hrow
       have HGC := Aside0.mk hc.1
       have HGB := Aside0.mk hbg.1
       have HNE := Aside0.mk hne
       clear hrow hc hbg hne hb y0 y1 y2 f0 f1 f2 HI
       generalize (((X.setCell ⟨gb, 0, none⟩ (.slice (some ⟨gc, 0, none⟩) 8 8)).setCell ⟨gb, 1, none⟩ (.int .i64 (wrap64 (a0_1 + 1)))).setCell ⟨gb, 2, none⟩ (.slice A0_2 l0_2.length c0_2)) = Y at hcm hout HRow ⊢
       obtain ⟨ce, hce, hfin⟩ := Option.bind_eq_some_iff.mp H.out
       have HCE := Aside0.mk hce
       have HFin := Aside0.mk hfin
       obtain ⟨ad0, vs0, rfl, hvl, hfk, hcell⟩ := cm_src (HV0.out w (Below.refl _ _)) HL8.out
       have HFK := Aside0.mk hfk
       have HCell := Aside0.mk (show ∀ (j : Nat) (v : Value), vs0[j]? = some v → Y.cell? (ad0.add j) = some v from fun j v hv => pw_cell_below hcm.out.bel (hcell j v hv))
       have HVL := Aside0.mk hvl
       have hone : ∀ u ∈ vs0, u.oneCell' = true := by
        intro u hu
        obtain ⟨j, hj, rfl⟩ := List.getElem_of_mem hu
        have hj2 : j < l0_0.length := by have := HL8.out; omega
        exact (Kd.slice 74 k74).K_one (hfk j _ _ (List.getElem?_eq_getElem hj2) (List.getElem?_eq_getElem hj) w (fun _ _ _ => rfl)) _ (by simp)
       have HOne := Aside0.mk hone
       have x0 := (blk_cell hcm.out.bs 0).trans rfl
       have z0 := (blk_cell hout.out 0).trans rfl
       clear hce hfin hvl hfk hcell hone H
       go_upto_region 11 with ((with_reducible refine gate_builtin (b := .copy) (xs := #[.tmp 63, .tmp 65]) rfl ?_); refine wpList_copy_own rfl (.tmp 63) (.tmp 65) 22 22 rfl 54 Try.underlying22 size54 gc 0 8 8 ad0 l0_0.length c0_0 rfl rfl _ 54 HRow.out vs0 (by rw [HVL.out, HL8.out]; rfl) HCell.out (by rw [HVL.out]; simp) HOne.out ?_)
       generalize hZ : Y.setRow gc _ = Z
       have hI := Aside0.mk (show CmI w Z Z.heap.size #[.slice (some ad0) l0_0.length c0_0, .int .i64 a0_1, .slice A0_2 l0_2.length c0_2] a1 #[.slice none 0 0, .int .i64 0, .slice none 0 0] #[.slice (some ⟨gc, 0, none⟩) 8 8, .int .i64 (wrap64 (a0_1 + 1)), .slice A0_2 l0_2.length c0_2] gc gb (fun k => P0_0_ k ∨ P0_2_ k) vs0 l0_0 from by
        rw [← hZ]
        exact CmI.start hcm.out HRow.out hout.out HGC.out HGB.out HNE.out HVL.out HL8.out (by simp [HVL.out]) HFK.out)
       clear hZ x0 z0
       obtain ⟨B, hB⟩ : ∃ B, B = Z.heap.size := ⟨_, rfl⟩
       rw [← hB] at hI
       clear hB hcm hout HRow HCell HFK HOne
       have hbig3 := HQ3.out.2.1
       have HBig3 := Aside0.mk hbig3
       clear hbig3
       go_wp2
       obtain ⟨n1, hn1⟩ : ∃ n1, n1 = wrap64 (a0_1 + 1) := ⟨_, rfl⟩
       rw [← hn1] at hI HCE HFin
       have HN1 := Aside0.mk hn1
       clear hn1
       go_loopg [69] l3.length (fun gg v69 wr => ∃ (j : Nat) (vs : List Value) (C : List (List S74)), v69 = .int .i64 j ∧ Aside0 (j ≤ l3.length ∧ l3.length - j ≤ gg) ∧ Aside0 (CmI w wr B #[.slice (some ad0) l0_0.length c0_0, .int .i64 a0_1, .slice A0_2 l0_2.length c0_2] a1 #[.slice none 0 0, .int .i64 0, .slice none 0 0] #[.slice (some ⟨gc, 0, none⟩) 8 8, .int .i64 n1, .slice A0_2 l0_2.length c0_2] gc gb (fun k => P0_0_ k ∨ P0_2_ k) vs C) ∧ Aside0 (cmGo k n1 (l3.drop j) C = some ce))
       case atStart => exact ⟨0, vs0, l0_0, rfl, ⟨Nat.zero_le _, by omega⟩, hI, HCE⟩
       case round =>
        obtain ⟨j, vs, C, rfl, HJ, HI, HG⟩ := hrel
        clear hI HCE HVL
        by_cases hj : j < l3.length
        ·have b0 : decide ((j : Int) < (l3.length : Int)) = true := decide_eq_true (by omega)
         have b1 : decide (j < l3.length) = true := decide_eq_true hj
         have hbig := HBig3.out
         have hjb : j < 9223372036854775807 := by omega
         obtain ⟨ad, A1', c1', A2', c2', eA, hx0, hx1, hx2, hl1, hi1, hl2, hi2⟩ := at_T42 HQ3.out (j : Int) (by omega) (by omega)
         obtain ⟨n, hn⟩ : ∃ n, n = rd_T42 l3 (j : Int) := ⟨_, rfl⟩
         have hd : l3.drop j = n :: l3.drop (j + 1) := by
          rw [List.drop_eq_getElem_cons hj, hn]
          simp [rd_T42, hj]
         have hmem : n ∈ l3 := by
          rw [hn]
          have : rd_T42 l3 (j : Int) = l3[j] := by simp [rd_T42, hj]
          rw [this]
          exact List.getElem_mem hj
         have hpar := HPar3.out n hmem
         rw [← hn] at hx0 hx1 hx2 hl1 hi1 hl2 hi2
         replace hx0 := pw_cell_below HI.out.cm.bel hx0
         replace hx1 := pw_cell_below HI.out.cm.bel hx1
         replace hx2 := pw_cell_below HI.out.cm.bel hx2
         simp only [Int.toNat_natCast] at hx0 hx1 hx2
         have HG1 := HG.out
         rw [hd, cmGo] at HG1
         obtain ⟨le, hle, HG2⟩ := Option.bind_eq_some_iff.mp HG1
         obtain ⟨p, hp⟩ : ∃ p, p = n.f0 := ⟨_, rfl⟩
         obtain ⟨s1, hs1⟩ : ∃ s1, s1 = n.f1.f0 := ⟨_, rfl⟩
         obtain ⟨d1, hd1⟩ : ∃ d1, d1 = n.f1.f1 := ⟨_, rfl⟩
         rw [← hp] at hx0 hle HG2 hpar
         rw [← hs1] at hx1 hl1 hi1 hle
         rw [← hd1] at hx2 hl2 hi2 hle
         simp only [isPar, Bool.and_eq_true, decide_eq_true_eq] at hpar
         obtain ⟨pn, rfl⟩ : ∃ pn : Nat, p = (pn : Int) := ⟨p.toNat, by omega⟩
         have hpn : pn < 8 := by omega
         subst eA
         have q0 : (0 ≤ (j : Int)) = True := eq_true (by omega)
         have q1 : ((j : Int) < (l3.length : Int)) = True := eq_true (by omega)
         have p0 : (0 ≤ (pn : Int)) = True := eq_true (by omega)
         have p1 : ((pn : Int) < 8) = True := eq_true (by omega)
         have p2 : (pn < 8) = True := eq_true hpn
         have HPN := Aside0.mk hpn
         have HJJ := Aside0.mk hj
         have HW := Aside0.mk (And.intro (wone_ hjb) (by rw [wr64', wone_ hjb] : IntKind.i64.wrap ((j : Int) + 1) = ((j + 1 : Nat) : Int)))
         have HLE := Aside0.mk hle
         have HG2 := Aside0.mk HG2
         have HI1 := Aside0.mk hi1
         have HI2 := Aside0.mk hi2
         have HL1 := Aside0.mk hl1
         have HL2 := Aside0.mk hl2
         clear hd hn hp hs1 hd1 hbig hjb hj HG hle HG1 hi1 hi2 hl1 hl2 hpar hpn hmem
         go_upto_region 14 with ((with_reducible refine gate_dst (N := 16) rfl ?_); refine box_event ?hg (N := 16) ?hd (cs := #[.int .i64 0, .slice none 0 0, .slice none 0 0]) (t := 42) ?hr ?_; (case hd => rfl); (case hg => rfl); (case hr => first | (go_simp; done) | (go_simp; rfl)); intro bx hg w9 hbox hb; have HG9 := Aside0.mk hg; have HX9 := Aside0.mk hbox; have HB9 := Aside0.mk hb; have z0 : w9.cell? ⟨bx, 0, none⟩ = some (.int .i64 0) := (blk_cell hbox 0).trans rfl; have z1 : w9.cell? ⟨bx, 1, none⟩ = some (.slice none 0 0) := (blk_cell hbox 1).trans rfl; have z2 : w9.cell? ⟨bx, 2, none⟩ = some (.slice none 0 0) := (blk_cell hbox 2).trans rfl; have f0 := blk_frozen hbox 0; have f1 := blk_frozen hbox 1; have f2 := blk_frozen hbox 2; clear hbox hb hg)
         generalize hW : (((w9.setCell ⟨bx, 0, none⟩ (.int .i64 (pn : Int))).setCell ⟨bx, 1, none⟩ (.slice A1' s1.length c1')).setCell ⟨bx, 2, none⟩ (.slice A2' d1.length c2')) = W
         have hbW : Below wr.heap.size wr W := by
          rw [← hW]
          have hge : wr.heap.size ≤ bx := by rw [HG9.out]; exact Nat.le_refl _
          exact ((HB9.out.setCell (p := ⟨bx, 0, none⟩) hge _).setCell (p := ⟨bx, 1, none⟩) hge _).setCell (p := ⟨bx, 2, none⟩) hge _
         have hbk : W.heap[bx]? = some (.cells #[.int .i64 (pn : Int), .slice A1' s1.length c1', .slice A2' d1.length c2'] 42 (0, 0)) := by
          rw [← hW]
          exact blk_put (blk_put (blk_put HX9.out 0 _ rfl) 1 _ rfl) 2 _ rfl
         have HI4 := Aside0.mk (HI.out.below hbW)
         have HX := Aside0.mk hbk
         have HBW := Aside0.mk hbW
         clear hW hbW hbk z0 z1 z2 f0 f1 f2 HI HX9 HB9 HG9 hx0 hx1 hx2
         obtain ⟨vp, hvp⟩ : ∃ vp, vs[pn]? = some vp := ⟨_, List.getElem?_eq_getElem (by have := HI4.out.len; have := HPN.out; omega)⟩
         obtain ⟨xp, hxp⟩ : ∃ xp, C[pn]? = some xp := ⟨_, List.getElem?_eq_getElem (by have := HI4.out.len; have := HPN.out; omega)⟩
         have hxe : cAt C (pn : Int) = xp := by
          simp only [cAt, Int.toNat_natCast, List.getD_eq_getElem?_getD, hxp, Option.getD_some]
         have HLE2 := HLE.out
         rw [hxe] at HLE2
         replace HLE := Aside0.mk HLE2
         obtain ⟨Ap, cp, hvpe, hlp, hFp⟩ := Kd.FK_slice_open (HI4.out.el pn xp vp hxp hvp)
         injection hvpe with hvpe _
         subst hvpe
         have HLP := Aside0.mk hlp
         have hw := Aside0.mk (show W.drew.cell? ⟨gb, 0, none⟩ = some (.slice (some ⟨gc, 0, none⟩) 8 8) ∧ W.drew.cell? ⟨bx, 0, none⟩ = some (.int .i64 (pn : Int)) ∧ W.drew.cell? ⟨gc, pn, none⟩ = some (.slice Ap xp.length cp) ∧ W.drew.cell? ⟨gb, 1, none⟩ = some (.int .i64 n1) ∧ W.drew.cell? ⟨bx, 1, none⟩ = some (.slice A1' s1.length c1') ∧ W.drew.cell? ⟨bx, 2, none⟩ = some (.slice A2' d1.length c2') from
          ⟨(blk_cell HI4.out.out 0).trans rfl, (blk_cell HX.out 0).trans rfl, (blk_cell HI4.out.row pn).trans (by simp [hvp]), (blk_cell HI4.out.out 1).trans rfl, (blk_cell HX.out 1).trans rfl, (blk_cell HX.out 2).trans rfl⟩)
         have HFP := Aside0.mk (show Kd.F k74 W.drew (fun k => (k < w.heap.size ∧ (P0_0_ k ∨ P0_2_ k)) ∨ B ≤ k) Ap xp.length xp from Kd.F_drew hFp)
         have HB4 := Aside0.mk (show Below wr.heap.size wr W.drew from below_drew1 HBW.out)
         have HI5 := Aside0.mk (show CmI w W.drew B #[.slice (some ad0) l0_0.length c0_0, .int .i64 a0_1, .slice A0_2 l0_2.length c0_2] a1 #[.slice none 0 0, .int .i64 0, .slice none 0 0] #[.slice (some ⟨gc, 0, none⟩) 8 8, .int .i64 n1, .slice A0_2 l0_2.length c0_2] gc gb (fun k => P0_0_ k ∨ P0_2_ k) vs C from HI4.out.below (below_drew1 (Below.refl _ _)))
         have HX5 := Aside0.mk (show W.drew.heap[bx]? = some (.cells #[.int .i64 (pn : Int), .slice A1' s1.length c1', .slice A2' d1.length c2'] 42 (0, 0)) from blk_below HX.out (below_drew1 (Below.refl _ _)))
         have HVP := Aside0.mk hvp
         clear hvp hxp hxe HLE2 hlp hFp HI4 HX HBW
         refine start_ (n := 16) (S := fun w' => w'.cell? ⟨gb, 0, none⟩ = some (.slice (some ⟨gc, 0, none⟩) 8 8) ∧ w'.cell? ⟨bx, 0, none⟩ = some (.int .i64 (pn : Int)) ∧ w'.cell? ⟨gc, pn, none⟩ = some (.slice Ap xp.length cp) ∧ w'.cell? ⟨gb, 1, none⟩ = some (.int .i64 n1) ∧ w'.cell? ⟨bx, 1, none⟩ = some (.slice A1' s1.length c1') ∧ w'.cell? ⟨bx, 2, none⟩ = some (.slice A2' d1.length c2')) (ds := [10]) #[false, false, false, false, false, false, false, false, false, false, false, false, false, false, false, false] (by kernel_rfl) rfl rfl hw.out (fun hHeld => ?_)
         generalize W.drew = W1 at HFP HB4 HI5 HX5 hHeld ⊢
         refine pure_ (i := 0) (N := some 74) (v := ?_) (a' := ?_) #[true, false, false, false, false, false, false, false, false, false, false, false, false, false, false, false] rfl rfl (by kernel_rfl) (fun _ _ _ h => h) (Or.inl ⟨by rfl, ?_⟩) ?_ ?_
         rotate_left
         ·intro w'
          go_simp
          with_reducible rfl
         rotate_left
         ·simp only [Act.put, sA_, sB_, sC_, i64_w, i32_w]
          rfl
         refine take_ (i := 1) (N := some 75) (v := ?_) (a' := ?_) #[true, true, false, false, false, false, false, false, false, false, false, false, false, false, false, false] rfl rfl (by kernel_rfl) (fun _ _ _ h => h) (Or.inl ⟨by rfl, ?_⟩) hHeld ?_ ?_
         rotate_left
         ·rintro w' ⟨s0, s1, s2, s3, s4, s5⟩
          go_simp
          with_reducible rfl
         rotate_left
         ·simp only [Act.put, sA_, sB_, sC_, i64_w, i32_w]
          rfl
         refine pure_ (i := 2) (N := some 76) (v := ?_) (a' := ?_) #[true, true, true, false, false, false, false, false, false, false, false, false, false, false, false, false] rfl rfl (by kernel_rfl) (fun _ _ _ h => h) (Or.inl ⟨by rfl, ?_⟩) ?_ ?_
         rotate_left
         ·intro w'
          go_simp
          with_reducible rfl
         rotate_left
         ·simp only [Act.put, sA_, sB_, sC_, i64_w, i32_w]
          rfl
         refine take_ (i := 3) (N := some 77) (v := ?_) (a' := ?_) #[true, true, true, true, false, false, false, false, false, false, false, false, false, false, false, false] rfl rfl (by kernel_rfl) (fun _ _ _ h => h) (Or.inl ⟨by rfl, ?_⟩) hHeld ?_ ?_
         rotate_left
         ·rintro w' ⟨s0, s1, s2, s3, s4, s5⟩
          go_simp
          with_reducible rfl
         rotate_left
         ·simp only [Act.put, sA_, sB_, sC_, i64_w, i32_w]
          rfl
         refine pure_ (i := 4) (N := some 78) (v := ?_) (a' := ?_) #[true, true, true, true, true, false, false, false, false, false, false, false, false, false, false, false] rfl rfl (by kernel_rfl) (fun _ _ _ h => h) (Or.inl ⟨by rfl, ?_⟩) ?_ ?_
         rotate_left
         ·intro w'
          go_simp
          with_reducible rfl
         rotate_left
         ·simp only [Act.put, sA_, sB_, sC_, i64_w, i32_w]
          rfl
         refine take_ (i := 5) (N := some 79) (v := ?_) (a' := ?_) #[true, true, true, true, true, true, false, false, false, false, false, false, false, false, false, false] rfl rfl (by kernel_rfl) (fun _ _ _ h => h) (Or.inl ⟨by rfl, ?_⟩) hHeld ?_ ?_
         rotate_left
         ·rintro w' ⟨s0, s1, s2, s3, s4, s5⟩
          go_simp
          with_reducible rfl
         rotate_left
         ·simp only [Act.put, sA_, sB_, sC_, i64_w, i32_w]
          rfl
         refine pure_ (i := 6) (N := some 80) (v := ?_) (a' := ?_) #[true, true, true, true, true, true, true, false, false, false, false, false, false, false, false, false] rfl rfl (by kernel_rfl) (fun _ _ _ h => h) (Or.inl ⟨by rfl, ?_⟩) ?_ ?_
         rotate_left
         ·intro w'
          go_simp
          with_reducible rfl
         rotate_left
         ·simp only [Act.put, sA_, sB_, sC_, i64_w, i32_w]
          rfl
         refine take_ (i := 7) (N := some 81) (v := ?_) (a' := ?_) #[true, true, true, true, true, true, true, true, false, false, false, false, false, false, false, false] rfl rfl (by kernel_rfl) (fun _ _ _ h => h) (Or.inl ⟨by rfl, ?_⟩) hHeld ?_ ?_
         rotate_left
         ·rintro w' ⟨s0, s1, s2, s3, s4, s5⟩
          go_simp
          with_reducible rfl
         rotate_left
         ·simp only [Act.put, sA_, sB_, sC_, i64_w, i32_w]
          rfl
         refine pure_ (i := 8) (N := some 82) (v := ?_) (a' := ?_) #[true, true, true, true, true, true, true, true, true, false, false, false, false, false, false, false] rfl rfl (by kernel_rfl) (fun _ _ _ h => h) (Or.inl ⟨by rfl, ?_⟩) ?_ ?_
         rotate_left
         ·intro w'
          go_simp
          with_reducible rfl
         rotate_left
         ·simp only [Act.put, sA_, sB_, sC_, i64_w, i32_w]
          rfl
         refine take_ (i := 9) (N := some 83) (v := ?_) (a' := ?_) #[true, true, true, true, true, true, true, true, true, true, false, false, false, false, false, false] rfl rfl (by kernel_rfl) (fun _ _ _ h => h) (Or.inl ⟨by rfl, ?_⟩) hHeld ?_ ?_
         rotate_left
         ·rintro w' ⟨s0, s1, s2, s3, s4, s5⟩
          go_simp
          with_reducible rfl
         rotate_left
         ·simp only [Act.put, sA_, sB_, sC_, i64_w, i32_w]
          rfl
         refine last_ (i := 10) (N := some 84) #[true, true, true, true, true, true, true, true, true, true, true, false, false, false, false, false] rfl rfl (by kernel_rfl) (by decide) (fun K hK => ?_)
         refine goes_ Try.func34 (by kernel_rfl) rfl #[.slice Ap xp.length cp, .int .i64 n1, .agg #[.slice A1' s1.length c1', .slice A2' d1.length c2']] (by rfl) rfl rfl (by (try simp only [List.map_toArray, List.map_cons, List.map_nil]); first | done | rfl) ?_
         refine (chain_Put.calls k (fun k => (k < w.heap.size ∧ (P0_0_ k ∨ P0_2_ k)) ∨ B ≤ k) Ap cp xp n1 A1' c1' s1 A2' c2' d1 le.1 le.2 W1 ?p1 ?p2 HL1.out ?p3 HL2.out HLE.out).mono ?_
         case p1 => exact Kd.V_mk HLP.out HFP.out
         case p2 => exact Kd.C_below HI1.out HI5.out.cm.bel
         case p3 => exact Kd.C_below HI2.out HI5.out.cm.bel
         rintro e W2 ⟨vr, rfl, hvr, hb⟩
         refine ⟨_, rfl, ?_⟩
         have hlB := HI5.out.hB
         have HI6 := Aside0.mk (HI5.out.below hb)
         have HB6 := Aside0.mk (below_step HB4.out hb)
         have HX6 := Aside0.mk (blk_below HX5.out hb)
         have hvr2 := Kd.V_mono hvr (ok' := fun k => (k < w.heap.size ∧ (P0_0_ k ∨ P0_2_ k)) ∨ B ≤ k) (fun k hk => by
          rcases hk with hk | hk
          ·exact hk
          ·exact .inr (Nat.le_trans hlB hk))
         obtain ⟨Ar, cr, rfl, hlr, hFr⟩ := hvr2
         have HVR := Aside0.mk (Kd.FK_slice_mk (e := 74) hlr hFr)
         clear hb hvr hlB hlr hFr HI5 HB4 HX5 HFP
         refine hK.out _ _ ?_
         clear hK K
         refine norm_ (a' := ?_) ?_ ?_
         rotate_left
         ·show Act.put _ (some 84) _ = _
          simp only [Act.put, sA_, sB_, sC_, i64_w, i32_w]
          rfl
         refine pure_ (i := 11) (N := some 73) (v := ?_) (a' := ?_) #[true, true, true, true, true, true, true, true, true, true, true, true, false, false, false, false] rfl rfl (by kernel_rfl) (fun _ _ _ h => h) (Or.inl ⟨by rfl, ?_⟩) ?_ ?_
         rotate_left
         ·intro w'
          go_simp
          with_reducible rfl
         rotate_left
         ·simp only [Act.put, sA_, sB_, sC_, i64_w, i32_w]
          rfl
         refine pure_ (i := 12) (N := some 85) (v := ?_) (a' := ?_) #[true, true, true, true, true, true, true, true, true, true, true, true, true, false, false, false] rfl rfl (by kernel_rfl) (fun _ _ _ h => h) (Or.inl ⟨by rfl, ?_⟩) ?_ ?_
         rotate_left
         ·intro w'
          go_simp
          with_reducible rfl
         rotate_left
         ·simp only [Act.put, sA_, sB_, sC_, i64_w, i32_w]
          rfl
         refine pure_ (i := 13) (N := some 86) (v := ?_) (a' := ?_) #[true, true, true, true, true, true, true, true, true, true, true, true, true, true, false, false] rfl rfl (by kernel_rfl) (fun _ _ _ h => h) (Or.inl ⟨by rfl, ?_⟩) ?_ ?_
         rotate_left
         ·intro w'
          go_simp
          with_reducible rfl
         rotate_left
         ·simp only [Act.put, sA_, sB_, sC_, i64_w, i32_w]
          rfl
         refine pure_ (i := 14) (N := some 17) (v := ?_) (a' := ?_) #[true, true, true, true, true, true, true, true, true, true, true, true, true, true, true, false] rfl rfl (by kernel_rfl) (fun _ _ _ h => h) (Or.inl ⟨by rfl, ?_⟩) ?_ ?_
         rotate_left
         ·intro w'
          go_simp
          with_reducible rfl
         rotate_left
         ·simp only [Act.put, sA_, sB_, sC_, i64_w, i32_w]
          rfl
         refine pure_ (i := 15) (N := some 18) (v := ?_) (a' := ?_) #[true, true, true, true, true, true, true, true, true, true, true, true, true, true, true, true] rfl rfl (by kernel_rfl) (fun _ _ _ h => h) (Or.inl ⟨by rfl, ?_⟩) ?_ ?_
         rotate_left
         ·intro w'
          go_simp
          with_reducible rfl
         rotate_left
         ·simp only [Act.put, sA_, sB_, sC_, i64_w, i32_w]
          rfl
         refine done_ (by kernel_rfl) ?_
         by_cases he : le.2 = 0
         ·have e0 : (le.2 != 0) = false := by rw [he]; rfl
          have HG3 := HG2.out
          rw [if_pos he] at HG3
          replace HG2 := Aside0.mk HG3
          clear HG3
          have hpl : pn < vs.length := by have := HI6.out.len; have := HPN.out; omega
          have z0 := (blk_cell HI6.out.out 0).trans rfl
          have z1 := (blk_cell HX6.out 0).trans rfl
          have z2 : W2.cell? ⟨gc, pn, none⟩ = some (.slice Ap xp.length cp) := (blk_cell HI6.out.row pn).trans (by simp [HVP.out])
          have f0 := blk_frozen HI6.out.row pn
          clear hpl
          obtain ⟨ew, ew'⟩ := HW.out
          go_wp2
          have HI7 := Aside0.mk (HI6.out.set pn HVR.out)
          have HG4 := HG2.out
          simp only [Int.toNat_natCast] at HG4
          go_roundg (l3.length - (j + 1))
          case measure => have := HJ.out; have := HJJ.out; omega
          case rel => exact ⟨j + 1, _, _, rfl, ⟨by have := HJ.out; have := HJJ.out; omega⟩, HI7, Aside0.mk HG4⟩
         ·have e0 : (le.2 != 0) = true := bne_iff_ne.mpr he
          have HG3 := HG2.out
          rw [if_neg he] at HG3
          injection HG3 with HG3
          have HF3 := HFin.out
          rw [← HG3] at HF3
          simp only [if_neg he, Option.some.injEq, Prod.mk.injEq] at HF3
          obtain ⟨rfl, rfl, rfl, rfl⟩ := HF3
          clear HG2
          have x0 := (blk_cell HI6.out.cm.bs 0).trans rfl
          have x1 := (blk_cell HI6.out.cm.bs 1).trans rfl
          have x2 := (blk_cell HI6.out.cm.bs 2).trans rfl
          have y0 := (blk_cell HI6.out.cm.br 0).trans rfl
          have y1 := (blk_cell HI6.out.cm.br 1).trans rfl
          have y2 := (blk_cell HI6.out.cm.br 2).trans rfl
          have f0 := blk_frozen HI6.out.cm.br 0
          have f1 := blk_frozen HI6.out.cm.br 1
          have f2 := blk_frozen HI6.out.cm.br 2
          go_wp2
          have HF := Aside0.mk (((HI6.out.put 0 (.slice (some ad0) l0_0.length c0_0) rfl).put 1 (.int .i64 a0_1) rfl).put 2 (.slice A0_2 l0_2.length c0_2) rfl).cm
          refine bodyPost_ret (results_ct rfl _ _ (w.heap.size + 2) 25 #[.slice (some ad0) l0_0.length c0_0, .int .i64 a0_1, .slice A0_2 l0_2.length c0_2] (0, 0) _ rfl HF.out.br Try.underlying25 rfl (by kernel_rfl)) rfl ?_
          exact ⟨_, _, rfl, HV0.out _ HF.out.bel, HV2.out _ HF.out.bel, HF.out.bel⟩
        ·have b0 : decide ((j : Int) < (l3.length : Int)) = false := decide_eq_false (by omega)
         have b1 : decide (j < l3.length) = false := decide_eq_false hj
         have HG1 := HG.out
         rw [List.drop_eq_nil_of_le (by omega)] at HG1
         injection HG1 with HG1
         have HF3 := HFin.out
         rw [← HG1] at HF3
         simp only [if_true, Option.some.injEq, Prod.mk.injEq] at HF3
         obtain ⟨rfl, rfl, rfl, rfl⟩ := HF3
         have x0 := (blk_cell HI.out.out 0).trans rfl
         have x1 := (blk_cell HI.out.out 1).trans rfl
         have x2 := (blk_cell HI.out.out 2).trans rfl
         have y0 := (blk_cell HI.out.cm.br 0).trans rfl
         have y1 := (blk_cell HI.out.cm.br 1).trans rfl
         have y2 := (blk_cell HI.out.cm.br 2).trans rfl
         have f0 := blk_frozen HI.out.cm.br 0
         have f1 := blk_frozen HI.out.cm.br 1
         have f2 := blk_frozen HI.out.cm.br 2
         clear hj HG1 HG
         go_wp2
         have HF := Aside0.mk (((HI.out.put 0 (.slice (some ⟨gc, 0, none⟩) 8 8) rfl).put 1 (.int .i64 n1) rfl).put 2 (.slice A0_2 l0_2.length c0_2) rfl)
         refine bodyPost_ret (results_ct rfl _ _ (w.heap.size + 2) 25 #[.slice (some ⟨gc, 0, none⟩) 8 8, .int .i64 n1, .slice A0_2 l0_2.length c0_2] (0, 0) _ rfl HF.out.cm.br Try.underlying25 rfl (by kernel_rfl)) rfl ?_
         exact ⟨_, _, rfl, HF.out.whole, HV2.out _ HF.out.cm.bel, HF.out.cm.bel⟩
end Go.Proofs.Ytmolbbebglfhmaa.A
