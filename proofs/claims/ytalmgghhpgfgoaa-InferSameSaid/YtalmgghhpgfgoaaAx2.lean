/- Lean functions that answer as the Go functions do, and the proofs that they do; no conditions. Written by this session's own driver: a scratch copy of the kit's print with the session's additions (wip/xprint). -/
import Derived.Test.YtalmgghhpgfgoaaAx0
import Derived.Test.YtalmgghhpgfgoaaAx1
namespace Go.Proofs.Ytalmgghhpgfgoaa.A
open Go.RowKit Go.Proofs.YtalmgghhpgfgoaaW.PrintWords Go.Proofs.YtalmgghhpgfgoaaW.PrintLast Go.Proofs.YtalmgghhpgfgoaaW.PrintMore
attribute [local go_sem] max2_int min2_int max_two min_two max_three min_three max_four min_four   -- for this text's walks alone
set_option linter.unusedVariables false
set_option linter.unusedSimpArgs false

/-! ### slices_Equal_int_int: function 37 -/
def slices_Equal_int_int.l0 : Nat → List Int → List Int → Int → Int → Option (Bool)
  | 0, _, _, _, _ => none
  | k + 1, x0, x1, x12, x13 => if x13 < x12 then (if 0 ≤ x13 then (if x13 < (x0.length : Int) then (if x13 < (x1.length : Int) then (if (rd x0 x13) = (rd x1 x13) then (slices_Equal_int_int.l0 k x0 x1 x12 (wrap64 (x13 + 1))) else (some false)) else (none)) else (none)) else (none)) else (some true)
def slices_Equal_int_int.f (k : Nat) (l0 : List Int) (l1 : List Int) : Option (Bool) := if (l0.length : Int) = (l1.length : Int) then (slices_Equal_int_int.l0 k l0 l1 (l0.length : Int) 0) else (some false)
theorem slices_Equal_int_int.mono_l : ∀ k, (∀ y0 y1 y2 y3, LeO (slices_Equal_int_int.l0 k y0 y1 y2 y3) (slices_Equal_int_int.l0 (k + 1) y0 y1 y2 y3))
  | 0 => fun _ _ _ _ r h => by simp [slices_Equal_int_int.l0] at h
  | k + 1 => by
    have ih0 := slices_Equal_int_int.mono_l k
    · intro y0 y1 y2 y3
      unfold slices_Equal_int_int.l0
      repeat' first
      | (with_reducible exact ih0 _ _ _ _)
      | (with_reducible exact LeO.refl _)
      | (with_reducible exact LeO.none _)
      | (with_reducible refine LeO.ite ?_ ?_)
      | (with_reducible refine LeO.bind ?_ (fun _ => ?_))
      | exact ih0 _ _ _ _
      | exact LeO.none _
      | refine LeO.ite ?_ ?_
      | refine LeO.bind ?_ (fun _ => ?_)
theorem slices_Equal_int_int.mono : ∀ a0 a1 k, LeO (slices_Equal_int_int.f k a0 a1) (slices_Equal_int_int.f (k + 1) a0 a1) := by
  intro a0 a1 k
  have ih0 := slices_Equal_int_int.mono_l k
  unfold slices_Equal_int_int.f
  repeat' first
      | (with_reducible exact ih0 _ _ _ _)
      | (with_reducible exact LeO.refl _)
      | (with_reducible exact LeO.none _)
      | (with_reducible refine LeO.ite ?_ ?_)
      | (with_reducible refine LeO.bind ?_ (fun _ => ?_))
      | exact ih0 _ _ _ _
      | exact LeO.none _
      | refine LeO.ite ?_ ?_
      | refine LeO.bind ?_ (fun _ => ?_)
set_option maxHeartbeats 8000000 in
set_option maxRecDepth 100000 in
theorem slices_Equal_int_int.calls (k : Nat) (A0 : Option Addr) (c0 : Nat) (l0 : List Int) (A1 : Option Addr) (c1 : Nat) (l1 : List Int) (r : Bool) (w : World) (hr0 : Kd.C (Kd.int .i64) w A0 l0.length l0) (hc0 : l0.length ≤ c0) (hr1 : Kd.C (Kd.int .i64) w A1 l1.length l1) (hc1 : l1.length ≤ c1) (h : slices_Equal_int_int.f k l0 l1 = some r) :
    Calls Try.prog 37 #[.slice A0 l0.length c0, .slice A1 l1.length c1] w fun e w' => e = .returned (.bool r) ∧ Drawn0 w w' := by
  have HR0 := Aside0.mk hr0
  have HC0 := Aside0.mk hc0
  clear hr0 hc0
  have HR1 := Aside0.mk hr1
  have HC1 := Aside0.mk hc1
  clear hr1 hc1
  have H : (if (l0.length : Int) = (l1.length : Int) then (slices_Equal_int_int.l0 k l0 l1 (l0.length : Int) 0) else (some false)) = some r := h
  clear h
  by_cases c3 : (l0.length : Int) = (l1.length : Int)
  · rw [if_pos c3] at H
    have c3b0 : ((l0.length : Int) == (l1.length : Int)) = true := beq_iff_eq.mpr c3
    have c3b1 : ((l0.length : Int) != (l1.length : Int)) = false := bne_eq_false_iff_eq.mpr c3
    have c3b2 : (l0.length == l1.length) = true := by first | simpa using c3 | (simp at c3 ⊢; omega)
    clear c3
    have H' := Aside0.mk H
    clear H
    go_enter Try.func37, Try.ntmps37
    go_wp2
    repeat (go_quiet (fail); try go_wp2)
    go_loopg [13] k (fun kq v13 w' => ∃ (x13_1 : Int), v13 = .int .i64 x13_1 ∧ Aside0 (slices_Equal_int_int.l0 kq l0 l1 (l0.length : Int) x13_1 = some r) ∧ Aside0 (kq ≤ k) ∧ Drawn0 w w')
    case atStart => exact ⟨(0), (by first | rfl | (simp; done) | (simp [*]; done)), H', ⟨Nat.le_refl _⟩, by repeat (first | exact Drawn0.refl _ | apply Drawn0.step)⟩
    case round =>
      clear H'
      try clear c1
      try clear p2
      try clear c3
      try clear c3b0
      try clear c3b1
      try clear c3b2
      obtain ⟨x13_1, rfl, HA, HK1, ⟨m1, rfl⟩⟩ := hrel
      cases gk with
      | zero => exact absurd HA.out (by simp [slices_Equal_int_int.l0])
      | succ k1 =>
        have H := HA.out
        clear HA
        simp only [slices_Equal_int_int.l0] at H
        by_cases c4 : x13_1 < (l0.length : Int)
        · rw [if_pos c4] at H
          have c4b0 : decide (x13_1 < (l0.length : Int)) = true := decide_eq_true c4
          clear c4
          by_cases c5 : 0 ≤ x13_1
          · rw [if_pos c5] at H
            have c5b0 : decide (0 ≤ x13_1) = true := decide_eq_true c5
            clear c5
            by_cases c6 : x13_1 < (l0.length : Int)
            · rw [if_pos c6] at H
              have c6b0 : decide (x13_1 < (l0.length : Int)) = true := decide_eq_true c6
              clear c6
              by_cases c7 : x13_1 < (l1.length : Int)
              · rw [if_pos c7] at H
                have c7b0 : decide (x13_1 < (l1.length : Int)) = true := decide_eq_true c7
                clear c7
                by_cases c8 : (rd l0 x13_1) = (rd l1 x13_1)
                · rw [if_pos c8] at H
                  obtain ⟨c8b0, c8b1⟩ := eqT_ c8
                  clear c8
                  have H' := Aside0.mk H
                  clear H
                  have p114 : 0 ≤ (x13_1 : Int) := of_decide_eq_true (by first | (with_reducible assumption) | assumption)
                  have q114 : x13_1 < (l0.length : Int) := of_decide_eq_true (by first | (with_reducible assumption) | assumption)
                  obtain ⟨ad114, e114, hx114_0⟩ := Kd.at_int HR0.out x13_1 p114 q114
                  cases e114
                  replace p114 := eq_true p114
                  replace q114 := eq_true q114
                  have p115 : 0 ≤ (x13_1 : Int) := of_decide_eq_true (by first | (with_reducible assumption) | assumption)
                  have q115 : x13_1 < (l1.length : Int) := of_decide_eq_true (by first | (with_reducible assumption) | assumption)
                  obtain ⟨ad115, e115, hx115_0⟩ := Kd.at_int HR1.out x13_1 p115 q115
                  cases e115
                  replace p115 := eq_true p115
                  replace q115 := eq_true q115
                  go_wp2
                  repeat (go_quiet (fail); try go_wp2)
                  go_roundg k1
                  case measure => have := HK1.out; omega
                  case rel => exact ⟨(wrap64 (x13_1 + 1)), (by first | rfl | (simp; done) | (simp [*]; done)), H', ⟨by have := HK1.out; omega⟩, by repeat (first | exact Drawn0.refl _ | apply Drawn0.step)⟩
                · rw [if_neg c8] at H
                  have c8b0 : ((rd l0 x13_1) == (rd l1 x13_1)) = false := beq_eq_false_iff_ne.mpr c8
                  have c8b1 : ((rd l0 x13_1) != (rd l1 x13_1)) = true := bne_iff_ne.mpr c8
                  obtain rfl := Option.some.inj H
                  have p114 : 0 ≤ (x13_1 : Int) := of_decide_eq_true (by first | (with_reducible assumption) | assumption)
                  have q114 : x13_1 < (l0.length : Int) := of_decide_eq_true (by first | (with_reducible assumption) | assumption)
                  obtain ⟨ad114, e114, hx114_0⟩ := Kd.at_int HR0.out x13_1 p114 q114
                  cases e114
                  replace p114 := eq_true p114
                  replace q114 := eq_true q114
                  have p115 : 0 ≤ (x13_1 : Int) := of_decide_eq_true (by first | (with_reducible assumption) | assumption)
                  have q115 : x13_1 < (l1.length : Int) := of_decide_eq_true (by first | (with_reducible assumption) | assumption)
                  obtain ⟨ad115, e115, hx115_0⟩ := Kd.at_int HR1.out x13_1 p115 q115
                  cases e115
                  replace p115 := eq_true p115
                  replace q115 := eq_true q115
                  go_wp2
                  repeat (go_quiet (fail); try go_wp2)
                  go_ret
                  exact ⟨by first | rfl | (simp; done) | (simp [*]; done), by repeat (first | exact Drawn0.refl _ | apply Drawn0.step)⟩
              · rw [if_neg c7] at H
                exact absurd H (by simp)
            · rw [if_neg c6] at H
              exact absurd H (by simp)
          · rw [if_neg c5] at H
            exact absurd H (by simp)
        · rw [if_neg c4] at H
          have c4b0 : decide (x13_1 < (l0.length : Int)) = false := decide_eq_false c4
          clear c4
          obtain rfl := Option.some.inj H
          go_wp2
          repeat (go_quiet (fail); try go_wp2)
          go_ret
          exact ⟨by first | rfl | (simp; done) | (simp [*]; done), by repeat (first | exact Drawn0.refl _ | apply Drawn0.step)⟩
  · rw [if_neg c3] at H
    have c3b0 : ((l0.length : Int) == (l1.length : Int)) = false := beq_eq_false_iff_ne.mpr c3
    have c3b1 : ((l0.length : Int) != (l1.length : Int)) = true := bne_iff_ne.mpr c3
    have c3b2 : (l0.length == l1.length) = false := by first | simpa using c3 | (simp at c3 ⊢; omega)
    obtain rfl := Option.some.inj H
    go_enter Try.func37, Try.ntmps37
    go_wp2
    repeat (go_quiet (fail); try go_wp2)
    go_ret
    exact ⟨by first | rfl | (simp; done) | (simp [*]; done), by repeat (first | exact Drawn0.refl _ | apply Drawn0.step)⟩

/-! ### graph_Check: function 17 (given) -/
/-! #### what the callees answer -/
theorem gc_shape0 (l : List Int) (d : Nat) : ∀ (k : Nat) (x : Int) (i : Nat), l.length - i = d → i ≤ l.length → l.length ≤ 3 → d < k → ∃ r, shape_Check.l0 k x l (l.length : Int) (i : Int) = some r := by
 induction d with
 | zero =>
  intro k x i hd hi h3 hk
  obtain ⟨k, rfl⟩ : ∃ q, k = q + 1 := ⟨k - 1, by omega⟩
  rw [shape_Check.l0, if_neg (by omega)]
  split <;> exact ⟨_, rfl⟩
 | succ d ih =>
  intro k x i hd hi h3 hk
  obtain ⟨k, rfl⟩ : ∃ q, k = q + 1 := ⟨k - 1, by omega⟩
  rw [shape_Check.l0, if_pos (by omega), if_pos (by omega), if_pos (by omega)]
  split
  ·exact ⟨_, rfl⟩
  ·split
   ·exact ⟨_, rfl⟩
   ·have e : wrap64 ((i : Int) + 1) = ((i + 1 : Nat) : Int) := by unfold wrap64; omega
    rw [e]
    exact ih k _ (i + 1) (by omega) (by omega) h3 (by omega)
theorem gc_shape (l : List Int) : ∃ r, shape_Check.f 8 l = some r := by
 unfold shape_Check.f
 split
 ·exact ⟨_, rfl⟩
 ·exact gc_shape0 l l.length 8 1 0 (by omega) (by omega) (by omega) (by omega)
theorem gc_shape_len {l : List Int} (h : shape_Check.f 8 l = some true) : l.length ≤ 3 := by
 unfold shape_Check.f at h
 split at h
 ·cases h
 ·omega
def gkind (op : Int) : Option (Int × Int) := (kindL.find? (fun p => decide (op = p.1))).map (·.2)
def wellB (n : S25) (kd : Int × Int) : Bool := (graph_well.f 8 n.f0 n.f1 n.f2 kd.1 kd.2).getD false
theorem well_some (n : S25) (kd : Int × Int) : graph_well.f 8 n.f0 n.f1 n.f2 kd.1 kd.2 = some (wellB n kd) := by
 have : ∃ r, graph_well.f 8 n.f0 n.f1 n.f2 kd.1 kd.2 = some r := by
  unfold graph_well.f
  split
  ·split
   ·exact ⟨_, rfl⟩
   ·rw [if_pos (by omega)]
    split
    ·exact ⟨_, rfl⟩
    ·split
     ·exact ⟨_, rfl⟩
     ·rw [if_pos (by omega)]
      obtain ⟨r, hr⟩ := gc_shape (n.f2.drop 1)
      rw [hr]
      exact ⟨_, rfl⟩
  ·split
   ·obtain ⟨r, hr⟩ := gc_shape n.f2
    rw [hr]
    exact ⟨_, rfl⟩
   ·exact ⟨_, rfl⟩
 obtain ⟨r, hr⟩ := this
 rw [wellB, hr]
 rfl
theorem gkind_mem {op : Int} {kd : Int × Int} (h : gkind op = some kd) : (op, kd) ∈ kindL := by
 unfold gkind at h
 obtain ⟨p, hp, rfl⟩ := Option.map_eq_some_iff.1 h
 have h1 := List.mem_of_find?_eq_some hp
 have h2 := List.find?_some hp
 simp only [decide_eq_true_eq] at h2
 subst h2
 exact h1
theorem kinds_le {op : Int} {kd : Int × Int} (h : gkind op = some kd) : kd.2 ≤ 3 := by
 have : ∀ p ∈ kindL, p.2.2 ≤ 3 := by decide
 exact this _ (gkind_mem h)
theorem well_len {n : S25} {kd : Int × Int} (hk : kd.2 ≤ 3) (h : wellB n kd = true) : n.f2.length ≤ 4 := by
 have hs := well_some n kd
 rw [h] at hs
 unfold graph_well.f at hs
 split at hs
 ·split at hs
  ·cases hs
  ·rw [if_pos (by omega)] at hs
   split at hs
   ·cases hs
   ·split at hs
    ·cases hs
    ·rw [if_pos (by omega)] at hs
     obtain ⟨r, hr⟩ := gc_shape (n.f2.drop 1)
     rw [hr] at hs
     have hs : some r = some true := hs
     cases hs
     have := gc_shape_len hr
     simp at this
     omega
 ·split at hs
  ·obtain ⟨r, hr⟩ := gc_shape n.f2
   rw [hr] at hs
   have hs : some r = some true := hs
   cases hs
   have := gc_shape_len hr
   omega
  ·simp at hs
   omega
theorem gc_eq0 (x y : List Int) (hl : x.length = y.length) (hm : x.length ≤ 10) (d : Nat) : ∀ (k i : Nat), x.length - i = d → i ≤ x.length → d < k →
  slices_Equal_int_int.l0 k x y (x.length : Int) (i : Int) = some (decide (x.drop i = y.drop i)) := by
 induction d with
 | zero =>
  intro k i hd hi hk
  obtain ⟨k, rfl⟩ : ∃ q, k = q + 1 := ⟨k - 1, by omega⟩
  rw [slices_Equal_int_int.l0, if_neg (by omega), List.drop_eq_nil_of_le (by omega), List.drop_eq_nil_of_le (by omega)]
  simp
 | succ d ih =>
  intro k i hd hi hk
  obtain ⟨k, rfl⟩ : ∃ q, k = q + 1 := ⟨k - 1, by omega⟩
  have hx : i < x.length := by omega
  have hy : i < y.length := by omega
  have ex : rd x (i : Int) = x[i] := by simp [rd, hx]
  have ey : rd y (i : Int) = y[i] := by simp [rd, hy]
  rw [slices_Equal_int_int.l0, if_pos (by omega), if_pos (by omega), if_pos (by omega), if_pos (by omega), ex, ey, List.drop_eq_getElem_cons hx, List.drop_eq_getElem_cons hy]
  by_cases c : x[i] = y[i]
  ·have ih' := ih k (i + 1) (by omega) (by omega) (by omega)
   have e : wrap64 ((i : Int) + 1) = ((i + 1 : Nat) : Int) := by unfold wrap64; omega
   rw [if_pos c, e, ih']
   simp only [c, List.cons.injEq, true_and]
  ·rw [if_neg c]
   simp only [List.cons.injEq, c, false_and, decide_false]
theorem gc_eq (x y : List Int) (hm : y.length ≤ 10) : slices_Equal_int_int.f 12 x y = some (decide (x = y)) := by
 unfold slices_Equal_int_int.f
 by_cases h : x.length = y.length
 ·rw [if_pos (by omega)]
  have := gc_eq0 x y h (by omega) x.length 12 0 (by omega) (by omega) (by omega)
  simpa using this
 ·rw [if_neg (by omega)]
  have : x ≠ y := fun e => h (by rw [e])
  simp [this]
/-! #### the function -/
def shGet (k : Int) : List (Int × List Int) → Option (List Int)
 | [] => none
 | p :: r => if k = p.1 then some p.2 else shGet k r
def shPut (k : Int) (v : List Int) : List (Int × List Int) → List (Int × List Int)
 | [] => [(k, v)]
 | p :: r => if k = p.1 then (k, v) :: r else p :: shPut k v r
/-- A shape that must be the one that was told for this name, if there was one. -/
def gseen (at_ : Int) (s : List Int) (sh : List (Int × List Int)) : Option (List (Int × List Int)) :=
 match shGet at_ sh with
 | some o => if o = s then some (shPut at_ s sh) else none
 | none => some (shPut at_ s sh)
def gahead (i a : Int) : Bool := decide (a < 0) || decide (i ≤ a)
/-- A node more: none, if it may not be. -/
def gstep (i : Int) (n : S25) (sh : List (Int × List Int)) : Option (List (Int × List Int)) :=
 match gkind n.f0 with
 | none => none
 | some kd => if (n.f1.length : Int) = kd.1 ∧ wellB n kd = true ∧ n.f1.any (gahead i) = false then
   (if n.f0 = 1 then gseen (-1) n.f2 sh else if n.f0 = 2 then gseen (rd n.f2 0) n.f2 sh else some sh) else none
def gall : Int → List S25 → List (Int × List Int) → Bool
 | _, [], _ => true
 | i, n :: r, sh => match gstep i n sh with
  | none => false
  | some sh' => gall (i + 1) r sh'
/-- May a graph be? -/
def gchk (l0 : List S25) : Bool := gall 0 l0 [] && decide (0 < l0.length) && decide (l0.length ≤ 24)
def graph_Check.f (l0 : List S25) : Option Bool := some (gchk l0)
/-- Shapes that are told by their name, as they lie in memory. -/
def ShR (w : World) : List (Int × Value) → List (Int × List Int) → Prop
 | [], [] => True
 | p :: es, q :: sh => p.1 = q.1 ∧ (∃ A c, p.2 = .slice A q.2.length c ∧ q.2.length ≤ c ∧ Kd.C (Kd.int .i64) w A q.2.length q.2) ∧ ShR w es sh
 | _, _ => False
theorem ShR.get {w : World} (k : Int) : ∀ {es : List (Int × Value)} {sh : List (Int × List Int)}, ShR w es sh →
  (imGet k es = none ∧ shGet k sh = none) ∨ ∃ A c s, imGet k es = some (.slice A s.length c) ∧ shGet k sh = some s ∧ s.length ≤ c ∧ Kd.C (Kd.int .i64) w A s.length s
 | [], [], _ => .inl ⟨rfl, rfl⟩
 | p :: es, q :: sh, h => by
  obtain ⟨h1, ⟨A, c, h2, h3, h4⟩, h5⟩ := h
  by_cases hk : k = p.1
  ·exact .inr ⟨A, c, q.2, by rw [imGet, if_pos hk, h2], by rw [shGet, if_pos (hk.trans h1)], h3, h4⟩
  ·rw [imGet, if_neg hk, shGet, if_neg (by rw [← h1]; exact hk)]
   exact ShR.get k h5
 | [], _ :: _, h => h.elim
 | _ :: _, [], h => h.elim
theorem ShR.put {w : World} (k : Int) {A : Option Addr} {c : Nat} {s : List Int} (hc : s.length ≤ c) (hr : Kd.C (Kd.int .i64) w A s.length s) : ∀ {es : List (Int × Value)} {sh : List (Int × List Int)}, ShR w es sh →
  ShR w (imPut k (.slice A s.length c) es) (shPut k s sh)
 | [], [], _ => ⟨rfl, ⟨A, c, rfl, hc, hr⟩, trivial⟩
 | p :: es, q :: sh, h => by
  obtain ⟨h1, h2, h5⟩ := h
  by_cases hk : k = p.1
  ·rw [imPut, if_pos hk, shPut, if_pos (hk.trans h1)]
   exact ⟨rfl, ⟨A, c, rfl, hc, hr⟩, h5⟩
  ·rw [imPut, if_neg hk, shPut, if_neg (by rw [← h1]; exact hk)]
   exact ⟨h1, h2, ShR.put k hc hr h5⟩
 | [], _ :: _, h => h.elim
 | _ :: _, [], h => h.elim
theorem kindGet (op : Int) : imGet op (kindV kindL) = (gkind op).map fun p => Value.agg #[.int .i64 p.1, .int .i64 p.2] := by
 have key : ∀ l : List (Int × (Int × Int)), imGet op (kindV l) = ((l.find? (fun p => decide (op = p.1))).map (·.2)).map fun p => Value.agg #[.int .i64 p.1, .int .i64 p.2] := by
  intro l
  induction l with
  | nil => rfl
  | cons p r ih =>
   by_cases h : op = p.1
   ·simp [kindV, imGet, h]
   ·simp only [kindV, List.map_cons, imGet, if_neg h]
    rw [show imGet op (List.map (fun p => (p.1, Value.agg #[.int .i64 p.2.1, .int .i64 p.2.2])) r) = imGet op (kindV r) from rfl, ih, List.find?_cons_of_neg (by simpa using h)]
 exact key kindL
set_option maxHeartbeats 8000000 in
set_option maxRecDepth 100000 in
theorem ahead_calls (a i : Int) (p : Addr) (W : World) (hc : W.cell? p = some (.int .i64 i)) :
  Calls Try.prog 33 #[.int .i64 a, .pointer (some p)] W fun e w' => e = .returned (.bool (gahead i a)) ∧ Below W.heap.size W w' := by
 by_cases h0 : a < 0
 ·have b0 : decide (a < 0) = true := decide_eq_true h0
  have hr : gahead i a = true := by simp [gahead, h0]
  rw [hr]
  clear h0 hr
  go_enter Try.func33, Try.ntmps33
  go_wp2
  go_ret
  exact ⟨rfl, Below.refl _ _⟩
 ·have b0 : decide (a < 0) = false := decide_eq_false h0
  have hr : gahead i a = decide (i ≤ a) := by simp [gahead, h0]
  rw [hr]
  clear h0 hr
  go_enter Try.func33, Try.ntmps33
  go_wp2
  go_ret
  exact ⟨rfl, Below.refl _ _⟩
theorem name_cases {n : S25} {kd : Int × Int} (hk : gkind n.f0 = some kd) (hw : wellB n kd = true) :
  (graph_name.f n.f0 n.f1 n.f2 = some (0, false) ∧ ∀ sh, (if n.f0 = 1 then gseen (-1) n.f2 sh else if n.f0 = 2 then gseen (rd n.f2 0) n.f2 sh else some sh) = some sh) ∨
  ∃ at_, graph_name.f n.f0 n.f1 n.f2 = some (at_, true) ∧ ∀ sh, (if n.f0 = 1 then gseen (-1) n.f2 sh else if n.f0 = 2 then gseen (rd n.f2 0) n.f2 sh else some sh) = gseen at_ n.f2 sh := by
 unfold graph_name.f
 by_cases h1 : n.f0 = 1
 ·rw [if_pos h1]
  exact .inr ⟨-1, rfl, fun sh => by rw [if_pos h1]⟩
 ·rw [if_neg h1]
  by_cases h2 : n.f0 = 2
  ·rw [if_pos h2]
   have hk2 : kd = (0, -2) := by
    rw [h2] at hk
    have : gkind 2 = some (0, -2) := by decide
    rw [this] at hk
    injection hk with hk
    exact hk.symm
   have hpos : 0 < (n.f2.length : Int) := by
    have hs := well_some n kd
    rw [hw, hk2] at hs
    unfold graph_well.f at hs
    rw [if_pos rfl] at hs
    split at hs
    ·cases hs
    ·omega
   rw [if_pos hpos]
   exact .inr ⟨_, rfl, fun sh => by rw [if_neg h1, if_pos h2]⟩
  ·rw [if_neg h2]
   exact .inl ⟨rfl, fun sh => by rw [if_neg h1, if_neg h2]⟩
/-- The round's own variables, as they lie in memory. -/
structure GBox (wr W : World) (i x0 : Int) (v1 v2 : Value) (ka kn : Int) : Prop where
 bel : Below wr.heap.size wr W
 size : wr.heap.size + 3 ≤ W.heap.size
 ci : W.cell? ⟨wr.heap.size, 0, none⟩ = some (.int .i64 i)
 n0 : W.cell? ⟨wr.heap.size + 1, 0, none⟩ = some (.int .i64 x0)
 n1 : W.cell? ⟨wr.heap.size + 1, 1, none⟩ = some v1
 n2 : W.cell? ⟨wr.heap.size + 1, 2, none⟩ = some v2
 k0 : W.cell? ⟨wr.heap.size + 1 + 1, 0, none⟩ = some (.int .i64 ka)
 k1 : W.cell? ⟨wr.heap.size + 1 + 1, 1, none⟩ = some (.int .i64 kn)
theorem GBox.next {wr W W' : World} {i x0 : Int} {v1 v2 : Value} {ka kn : Int} (h : GBox wr W i x0 v1 v2 ka kn) (hb : Below W.heap.size W W') : GBox wr W' i x0 v1 v2 ka kn :=
 have hs := h.size
 ⟨below_step h.bel hb, Nat.le_trans hs hb.size, pw_cell_below hb h.ci, pw_cell_below hb h.n0, pw_cell_below hb h.n1, pw_cell_below hb h.n2, pw_cell_below hb h.k0, pw_cell_below hb h.k1⟩
theorem GBox.start (wr : World) (i x0 : Int) (v1 v2 : Value) (ka kn : Int) (t u v : TypeId) :
  GBox wr (((wr.alloc (.cells #[.int .i64 i] t)).alloc (.cells #[.int .i64 x0, v1, v2] u)).alloc (.cells #[.int .i64 ka, .int .i64 kn] v)) i x0 v1 v2 ka kn := by
 refine ⟨below_alloc (below_alloc (below_alloc (Below.refl _ _) _) _) _, by simp, ?_, ?_, ?_, ?_, ?_, ?_⟩
 ·rw [World.cell?_alloc_past _ _ _ (by simp; omega), World.cell?_alloc_past _ _ _ (by simp), World.cell?_alloc_at _ _ _ _ rfl]; rfl
 ·rw [World.cell?_alloc_past _ _ _ (by simp), World.cell?_alloc_at _ _ _ _ (by simp)]; rfl
 ·rw [World.cell?_alloc_past _ _ _ (by simp), World.cell?_alloc_at _ _ _ _ (by simp)]; rfl
 ·rw [World.cell?_alloc_past _ _ _ (by simp), World.cell?_alloc_at _ _ _ _ (by simp)]; rfl
 ·rw [World.cell?_alloc_at _ _ _ _ (by simp)]; rfl
 ·rw [World.cell?_alloc_at _ _ _ _ (by simp)]; rfl
/-- What holds of the world ahead of a round. -/
structure GInv (w : World) (bk : Nat) (n1 : Nat) (wr : World) (es : List (Int × Value)) (sh : List (Int × List Int)) : Prop where
 bel : Below w.heap.size w wr
 size : w.heap.size ≤ bk ∧ bk < n1 ∧ n1 < wr.heap.size
 kinds : IM wr bk (kindV kindL)
 im : IM wr n1 es
 sh : ShR w es sh
set_option maxHeartbeats 8000000 in
set_option maxRecDepth 100000 in
theorem graph_Check.calls (A0 : Option Addr) (c0 : Nat) (l0 : List S25) (r : Bool) (w : World) (hr0 : Kd.C k25 w A0 l0.length l0) (hc0 : l0.length ≤ c0) (h : graph_Check.f l0 = some r) :
  Calls Try.prog 17 #[.slice A0 l0.length c0] w fun e w' => e = .returned (.bool r) ∧ Below w.heap.size w w' := by
 unfold graph_Check.f at h
 replace h := Option.some.inj h
 unfold gchk at h
 have HR := Aside0.mk hr0
 have HH := Aside0.mk h
 have hbig := hr0.2.1
 have hmm := @run_makeMap Try.prog
 clear hr0 h hc0
 go_enter Try.func17, Try.ntmps17
 go_wp2_with (go_at_call 32; (with_reducible refine (graph_kinds.calls _).mono ?_); rintro e w1 ⟨bk, rfl, hk1, hk2, hk3, hb1⟩; have HK3 := Aside0.mk hk3; have HB1 := Aside0.mk hb1; clear hk3 hb1)
 have HI : Aside0 (GInv w bk w1.heap.size (w1.alloc (.map #[] 0)) [] []) := ⟨below_alloc HB1.out _, ⟨hk1, hk2, by simp⟩, HK3.out.below (B := w1.heap.size) ((Below.refl _ _).alloc (Nat.le_refl _) _) hk2, IM.made w1, trivial⟩
 have hz49 : ∀ W : World, (zeroValue 58).run Try.prog W = .ok (.agg #[.int .i64 0, .int .i64 0]) W := fun W => by kernel_rfl
 have hz34 : ∀ W : World, (zeroValue 23).run Try.prog W = .ok (.slice none 0 0) W := fun W => by kernel_rfl
 go_loopg [18] l0.length (fun gg s18 wr => ∃ (kk : Nat) (es : List (Int × Value)) (sh : List (Int × List Int)), s18 = .int .i64 kk ∧ Aside0 (kk ≤ l0.length ∧ l0.length - kk ≤ gg) ∧ Aside0 (GInv w bk w1.heap.size wr es sh) ∧ Aside0 (gall 0 l0 [] = gall kk (l0.drop kk) sh))
 case atStart => exact ⟨0, [], [], rfl, ⟨Nat.zero_le _, by omega⟩, HI, ⟨rfl⟩⟩
 case round =>
  obtain ⟨kk, es, sh, rfl, HK, HG, HA⟩ := hrel
  clear HI
  by_cases hlt : kk < l0.length
  ·have hltz : (kk : Int) < (l0.length : Int) := by omega
   have hbz : decide ((kk : Int) < (l0.length : Int)) = true := decide_eq_true hltz
   obtain ⟨ad, A1, c1, A2, c2, eA, hx0, hx1, hx2, hl1, hi1, hl2, hi2⟩ := at_T25 HR.out (kk : Int) (by omega) hltz
   replace hx0 := pw_cell_below HG.out.bel hx0
   replace hx1 := pw_cell_below HG.out.bel hx1
   replace hx2 := pw_cell_below HG.out.bel hx2
   simp only [Int.toNat_natCast] at hx0 hx1 hx2
   obtain ⟨n, hn⟩ : ∃ n, n = rd_T25 l0 (kk : Int) := ⟨_, rfl⟩
   have hd : l0.drop kk = n :: l0.drop (kk + 1) := by
    rw [List.drop_eq_getElem_cons hlt, hn]
    simp [rd_T25, hlt]
   rw [← hn] at hx0 hx1 hx2 hl1 hi1 hl2 hi2
   subst eA
   have HB := Aside0.mk HG.out.bel
   have HS := Aside0.mk HG.out.size
   have HKI := Aside0.mk HG.out.kinds
   have HIM := Aside0.mk HG.out.im
   have HSH := Aside0.mk HG.out.sh
   rw [hd] at HA
   have HI1 := Aside0.mk (Kd.C_below hi1 HB.out)
   have HI2 := Aside0.mk (Kd.C_below hi2 HB.out)
   have HI2w := Aside0.mk hi2
   have HL1 := Aside0.mk hl1
   have HL2 := Aside0.mk hl2
   have HKL := Aside0.mk (show bk < wr.heap.size by have := HG.out.size; omega)
   clear hd hn hi1 hi2 hl1 hl2 HG hk1 hk2 HK3 HB1
   cases hg : gkind n.f0 with
   | none =>
    have hget := kindGet n.f0
    rw [hg] at hget
    have HGET := Aside0.mk hget
    obtain rfl : r = false := by
     rw [← HH.out, HA.out]
     simp [gall, gstep, hg]
    clear hg hget
    go_wp2_with (with_reducible refine wpList_im_miss (o := ⟨_, .lookup 54 _ _ true, _, _, _, _⟩) rfl _ _ rfl Try.underlying54 Try.underlying3 (hz49 _) _ HGET.out (HKI.out.below (below_alloc (below_alloc (Below.refl _ _) _) _) HKL.out) rfl rfl ?_)
    go_ret
    exact ⟨rfl, below_alloc (below_alloc (below_alloc HB.out _) _) _⟩
   | some kd =>
    obtain ⟨ka, kn⟩ := kd
    have hget := kindGet n.f0
    rw [hg] at hget
    have HGET := Aside0.mk hget
    have HGK := Aside0.mk hg
    have HW := Aside0.mk (well_some n (ka, kn))
    clear hg hget
    by_cases ha : (n.f1.length : Int) = ka
    ·have hb0 : ((n.f1.length : Int) == ka) = true := beq_iff_eq.mpr ha
     have hb1 : ((n.f1.length : Int) != ka) = false := bne_eq_false_iff_eq.mpr ha
     have HLA := Aside0.mk ha
     clear ha
     have HX := Aside0.mk (GBox.start wr kk n.f0 (.slice A1 n.f1.length c1) (.slice A2 n.f2.length c2) ka kn 3 25 58)
     cases hw : wellB n (ka, kn) with
     | false =>
      rw [hw] at HW
      obtain rfl : r = false := by
       rw [← HH.out, HA.out]
       simp [gall, gstep, HGK.out, hw]
      clear hw
      go_wp2_with (first | (with_reducible refine wpList_im_hit (o := ⟨_, .lookup 54 _ _ true, _, _, _, _⟩) rfl _ _ rfl Try.underlying54 Try.underlying3 (hz49 _) _ _ HGET.out (HKI.out.below (below_alloc (below_alloc (Below.refl _ _) _) _) HKL.out) rfl rfl ?_) | (go_at_call 34; (with_reducible refine (graph_well.calls 8 n.f0 A1 c1 n.f1 A2 c2 n.f2 ka kn _ _ ?s1 HL1.out ?s2 HL2.out HW.out).mono ?_); (case s1 => exact Kd.C_below HI1.out HX.out.bel); (case s2 => exact Kd.C_below HI2.out HX.out.bel); rintro e w2 ⟨rfl, hb⟩; have hn_ := Aside0.mk (HX.out.next hb); clear HX hb; have HX := hn_; clear hn_; (try clear ci n0 n1 n2 k0 k1); have ci := HX.out.ci; have n0 := HX.out.n0; have n1 := HX.out.n1; have n2 := HX.out.n2; have k0 := HX.out.k0; have k1 := HX.out.k1))
      go_ret
      exact ⟨rfl, below_step HB.out HX.out.bel⟩
     | true =>
      rw [hw] at HW
      have HWT := Aside0.mk hw
      clear hw
      cases hany : n.f1.any (gahead kk) with
      | true =>
       obtain rfl : r = false := by
        rw [← HH.out, HA.out]
        simp [gall, gstep, HGK.out, hany]
       have HANY := Aside0.mk hany
       clear hany
       go_wp2_with (first | (with_reducible refine wpList_im_hit (o := ⟨_, .lookup 54 _ _ true, _, _, _, _⟩) rfl _ _ rfl Try.underlying54 Try.underlying3 (hz49 _) _ _ HGET.out (HKI.out.below (below_alloc (below_alloc (Below.refl _ _) _) _) HKL.out) rfl rfl ?_) | (go_at_call 34; (with_reducible refine (graph_well.calls 8 n.f0 A1 c1 n.f1 A2 c2 n.f2 ka kn _ _ ?s1 HL1.out ?s2 HL2.out HW.out).mono ?_); (case s1 => exact Kd.C_below HI1.out HX.out.bel); (case s2 => exact Kd.C_below HI2.out HX.out.bel); rintro e w2 ⟨rfl, hb⟩; have hn_ := Aside0.mk (HX.out.next hb); clear HX hb; have HX := hn_; clear hn_; (try clear ci n0 n1 n2 k0 k1); have ci := HX.out.ci; have n0 := HX.out.n0; have n1 := HX.out.n1; have n2 := HX.out.n2; have k0 := HX.out.k0; have k1 := HX.out.k1) | (go_at_call 35; (with_reducible refine (slices_ContainsFunc_int_int_35.by_ (gahead kk) 33 #[.pointer (some ⟨wr.heap.size, 0, none⟩)] A1 c1 n.f1 _ ?s1 ?s2 ?s3).mono ?_); (case s1 => exact Kd.C_below HI1.out HX.out.bel); (case s2 => exact enters_ Try.prog Try.func33 (by kernel_rfl) rfl); (case s3 => exact fun W x _ hb => ahead_calls x kk ⟨wr.heap.size, 0, none⟩ W (pw_cell_below hb HX.out.ci)); rintro e w3 ⟨rfl, hb⟩; rw [HANY.out]; have hn_ := Aside0.mk (HX.out.next hb); clear HX hb; have HX := hn_; clear hn_; (try clear ci n0 n1 n2 k0 k1); have ci := HX.out.ci; have n0 := HX.out.n0; have n1 := HX.out.n1; have n2 := HX.out.n2; have k0 := HX.out.k0; have k1 := HX.out.k1))
       go_ret
       exact ⟨rfl, below_step HB.out HX.out.bel⟩
      | false =>
       have HANY := Aside0.mk hany
       have HNL := Aside0.mk (show w1.heap.size < wr.heap.size from HS.out.2.2)
       clear hany
       rcases name_cases HGK.out HWT.out with ⟨hn, hnm⟩ | ⟨at_, hn, hnm⟩
       ·have HN := Aside0.mk hn
        have HNM := Aside0.mk hnm
        clear hn hnm
        go_wp2_with (first | (with_reducible refine wpList_im_hit (o := ⟨_, .lookup 54 _ _ true, _, _, _, _⟩) rfl _ _ rfl Try.underlying54 Try.underlying3 (hz49 _) _ _ HGET.out (HKI.out.below (below_alloc (below_alloc (Below.refl _ _) _) _) HKL.out) rfl rfl ?_) | (go_at_call 34; (with_reducible refine (graph_well.calls 8 n.f0 A1 c1 n.f1 A2 c2 n.f2 ka kn _ _ ?s1 HL1.out ?s2 HL2.out HW.out).mono ?_); (case s1 => exact Kd.C_below HI1.out HX.out.bel); (case s2 => exact Kd.C_below HI2.out HX.out.bel); rintro e w2 ⟨rfl, hb⟩; have hn_ := Aside0.mk (HX.out.next hb); clear HX hb; have HX := hn_; clear hn_; (try clear ci n0 n1 n2 k0 k1); have ci := HX.out.ci; have n0 := HX.out.n0; have n1 := HX.out.n1; have n2 := HX.out.n2; have k0 := HX.out.k0; have k1 := HX.out.k1) | (go_at_call 35; (with_reducible refine (slices_ContainsFunc_int_int_35.by_ (gahead kk) 33 #[.pointer (some ⟨wr.heap.size, 0, none⟩)] A1 c1 n.f1 _ ?s1 ?s2 ?s3).mono ?_); (case s1 => exact Kd.C_below HI1.out HX.out.bel); (case s2 => exact enters_ Try.prog Try.func33 (by kernel_rfl) rfl); (case s3 => exact fun W x _ hb => ahead_calls x kk ⟨wr.heap.size, 0, none⟩ W (pw_cell_below hb HX.out.ci)); rintro e w3 ⟨rfl, hb⟩; rw [HANY.out]; have hn_ := Aside0.mk (HX.out.next hb); clear HX hb; have HX := hn_; clear hn_; (try clear ci n0 n1 n2 k0 k1); have ci := HX.out.ci; have n0 := HX.out.n0; have n1 := HX.out.n1; have n2 := HX.out.n2; have k0 := HX.out.k0; have k1 := HX.out.k1) | (go_at_call 36; (with_reducible refine (graph_name.calls n.f0 A1 c1 n.f1 A2 c2 n.f2 _ _ _ ?s1 HL1.out ?s2 HL2.out HN.out).mono ?_); (case s1 => exact Kd.C_below HI1.out HX.out.bel); (case s2 => exact Kd.C_below HI2.out HX.out.bel); rintro e w4 ⟨rfl, hb⟩; have hn_ := Aside0.mk (HX.out.next hb); clear HX hb; have HX := hn_; clear hn_; (try clear ci n0 n1 n2 k0 k1); have ci := HX.out.ci; have n0 := HX.out.n0; have n1 := HX.out.n1; have n2 := HX.out.n2; have k0 := HX.out.k0; have k1 := HX.out.k1))
        go_roundg (l0.length - (kk + 1))
        case measure => have := HK.out; omega
        case rel =>
         refine ⟨kk + 1, es, sh, by go_num, ⟨by have := HK.out; omega, by omega⟩, ⟨below_step HB.out HX.out.bel, ⟨HS.out.1, HS.out.2.1, Nat.lt_of_lt_of_le HNL.out HX.out.bel.size⟩, HKI.out.below HX.out.bel HKL.out, HIM.out.below HX.out.bel HNL.out, HSH.out⟩, ⟨?_⟩⟩
         rw [HA.out, gall, gstep, HGK.out]
         simp only [HLA.out, HWT.out, HANY.out, and_self, if_true, HNM.out]
         norm_cast
       ·have HN := Aside0.mk hn
        have HNM := Aside0.mk hnm
        clear hn hnm
        rcases HSH.out.get at_ with ⟨h1, h2⟩ | ⟨As, cs, s, h1, h2, h3, h4⟩
        ·have HSG := Aside0.mk h1
         have HSE := Aside0.mk (show ∀ s, gseen at_ s sh = some (shPut at_ s sh) from fun s => by rw [gseen, h2])
         clear h1 h2
         go_wp2_with (first | (with_reducible refine wpList_im_hit (o := ⟨_, .lookup 54 _ _ true, _, _, _, _⟩) rfl _ _ rfl Try.underlying54 Try.underlying3 (hz49 _) _ _ HGET.out (HKI.out.below (below_alloc (below_alloc (Below.refl _ _) _) _) HKL.out) rfl rfl ?_) | (go_at_call 34; (with_reducible refine (graph_well.calls 8 n.f0 A1 c1 n.f1 A2 c2 n.f2 ka kn _ _ ?s1 HL1.out ?s2 HL2.out HW.out).mono ?_); (case s1 => exact Kd.C_below HI1.out HX.out.bel); (case s2 => exact Kd.C_below HI2.out HX.out.bel); rintro e w2 ⟨rfl, hb⟩; have hn_ := Aside0.mk (HX.out.next hb); clear HX hb; have HX := hn_; clear hn_; (try clear ci n0 n1 n2 k0 k1); have ci := HX.out.ci; have n0 := HX.out.n0; have n1 := HX.out.n1; have n2 := HX.out.n2; have k0 := HX.out.k0; have k1 := HX.out.k1) | (go_at_call 35; (with_reducible refine (slices_ContainsFunc_int_int_35.by_ (gahead kk) 33 #[.pointer (some ⟨wr.heap.size, 0, none⟩)] A1 c1 n.f1 _ ?s1 ?s2 ?s3).mono ?_); (case s1 => exact Kd.C_below HI1.out HX.out.bel); (case s2 => exact enters_ Try.prog Try.func33 (by kernel_rfl) rfl); (case s3 => exact fun W x _ hb => ahead_calls x kk ⟨wr.heap.size, 0, none⟩ W (pw_cell_below hb HX.out.ci)); rintro e w3 ⟨rfl, hb⟩; rw [HANY.out]; have hn_ := Aside0.mk (HX.out.next hb); clear HX hb; have HX := hn_; clear hn_; (try clear ci n0 n1 n2 k0 k1); have ci := HX.out.ci; have n0 := HX.out.n0; have n1 := HX.out.n1; have n2 := HX.out.n2; have k0 := HX.out.k0; have k1 := HX.out.k1) | (go_at_call 36; (with_reducible refine (graph_name.calls n.f0 A1 c1 n.f1 A2 c2 n.f2 _ _ _ ?s1 HL1.out ?s2 HL2.out HN.out).mono ?_); (case s1 => exact Kd.C_below HI1.out HX.out.bel); (case s2 => exact Kd.C_below HI2.out HX.out.bel); rintro e w4 ⟨rfl, hb⟩; have hn_ := Aside0.mk (HX.out.next hb); clear HX hb; have HX := hn_; clear hn_; (try clear ci n0 n1 n2 k0 k1); have ci := HX.out.ci; have n0 := HX.out.n0; have n1 := HX.out.n1; have n2 := HX.out.n2; have k0 := HX.out.k0; have k1 := HX.out.k1) | (with_reducible refine wpList_im_miss (o := ⟨_, .lookup 56 _ _ true, _, _, _, _⟩) rfl _ _ rfl Try.underlying56 Try.underlying3 (hz34 _) _ HSG.out (HIM.out.below HX.out.bel HNL.out) rfl rfl ?_) | ((with_reducible refine wpList_im_put (o := ⟨none, .mapUpdate 56 _ _ _, _, _, _, _⟩) rfl _ _ _ (Or.inr rfl) Try.underlying56 Try.underlying3 _ _ (HIM.out.below HX.out.bel HNL.out) rfl rfl rfl ?_); intro w6 him hgr; have HIM6 := Aside0.mk him; have HGR := Aside0.mk hgr; clear him hgr))
         go_roundg (l0.length - (kk + 1))
         case measure => have := HK.out; omega
         case rel =>
          have hbel := below_step HB.out HX.out.bel
          have hlt6 := Nat.lt_of_lt_of_le HNL.out HX.out.bel.size
          refine ⟨kk + 1, _, shPut at_ n.f2 sh, by go_num, ⟨by have := HK.out; omega, by omega⟩, ⟨hbel.grown HGR.out (Nat.le_trans HB.out.size HX.out.bel.size) (fun k hk => by injection hk with hk; have := HS.out; omega), ⟨HS.out.1, HS.out.2.1, Nat.lt_of_lt_of_le hlt6 HGR.out.size⟩, (HKI.out.below HX.out.bel HKL.out).keep (HGR.out.block bk (Nat.lt_of_lt_of_le HKL.out HX.out.bel.size) (by have := HS.out.2.1; simp; omega)), HIM6.out, HSH.out.put at_ HL2.out HI2w.out⟩, ⟨?_⟩⟩
          rw [HA.out, gall, gstep, HGK.out]
          simp only [HLA.out, HWT.out, HANY.out, and_self, if_true, HNM.out, HSE.out]
          norm_cast
        ·have HSG := Aside0.mk h1
         have HSC := Aside0.mk h3
         have HSR := Aside0.mk h4
         have hlen := well_len (kinds_le HGK.out) HWT.out
         have hlen10 : n.f2.length ≤ 10 := by omega
         by_cases hs : s = n.f2
         ·have HSE := Aside0.mk (show gseen at_ n.f2 sh = some (shPut at_ n.f2 sh) by rw [gseen, h2]; simp only [hs, if_true])
          have HEQ := Aside0.mk (gc_eq s n.f2 hlen10)
          have HDE := Aside0.mk (show decide (s = n.f2) = true from decide_eq_true hs)
          clear h1 h2 h3 h4 hs hlen hlen10
          go_wp2_with (first | (with_reducible refine wpList_im_hit (o := ⟨_, .lookup 54 _ _ true, _, _, _, _⟩) rfl _ _ rfl Try.underlying54 Try.underlying3 (hz49 _) _ _ HGET.out (HKI.out.below (below_alloc (below_alloc (Below.refl _ _) _) _) HKL.out) rfl rfl ?_) | (go_at_call 34; (with_reducible refine (graph_well.calls 8 n.f0 A1 c1 n.f1 A2 c2 n.f2 ka kn _ _ ?s1 HL1.out ?s2 HL2.out HW.out).mono ?_); (case s1 => exact Kd.C_below HI1.out HX.out.bel); (case s2 => exact Kd.C_below HI2.out HX.out.bel); rintro e w2 ⟨rfl, hb⟩; have hn_ := Aside0.mk (HX.out.next hb); clear HX hb; have HX := hn_; clear hn_; (try clear ci n0 n1 n2 k0 k1); have ci := HX.out.ci; have n0 := HX.out.n0; have n1 := HX.out.n1; have n2 := HX.out.n2; have k0 := HX.out.k0; have k1 := HX.out.k1) | (go_at_call 35; (with_reducible refine (slices_ContainsFunc_int_int_35.by_ (gahead kk) 33 #[.pointer (some ⟨wr.heap.size, 0, none⟩)] A1 c1 n.f1 _ ?s1 ?s2 ?s3).mono ?_); (case s1 => exact Kd.C_below HI1.out HX.out.bel); (case s2 => exact enters_ Try.prog Try.func33 (by kernel_rfl) rfl); (case s3 => exact fun W x _ hb => ahead_calls x kk ⟨wr.heap.size, 0, none⟩ W (pw_cell_below hb HX.out.ci)); rintro e w3 ⟨rfl, hb⟩; rw [HANY.out]; have hn_ := Aside0.mk (HX.out.next hb); clear HX hb; have HX := hn_; clear hn_; (try clear ci n0 n1 n2 k0 k1); have ci := HX.out.ci; have n0 := HX.out.n0; have n1 := HX.out.n1; have n2 := HX.out.n2; have k0 := HX.out.k0; have k1 := HX.out.k1) | (go_at_call 36; (with_reducible refine (graph_name.calls n.f0 A1 c1 n.f1 A2 c2 n.f2 _ _ _ ?s1 HL1.out ?s2 HL2.out HN.out).mono ?_); (case s1 => exact Kd.C_below HI1.out HX.out.bel); (case s2 => exact Kd.C_below HI2.out HX.out.bel); rintro e w4 ⟨rfl, hb⟩; have hn_ := Aside0.mk (HX.out.next hb); clear HX hb; have HX := hn_; clear hn_; (try clear ci n0 n1 n2 k0 k1); have ci := HX.out.ci; have n0 := HX.out.n0; have n1 := HX.out.n1; have n2 := HX.out.n2; have k0 := HX.out.k0; have k1 := HX.out.k1) | (with_reducible refine wpList_im_hit (o := ⟨_, .lookup 56 _ _ true, _, _, _, _⟩) rfl _ _ rfl Try.underlying56 Try.underlying3 (hz34 _) _ _ HSG.out (HIM.out.below HX.out.bel HNL.out) rfl rfl ?_) | (go_at_call 37; (with_reducible refine (slices_Equal_int_int.calls 12 As cs s A2 c2 n.f2 _ _ ?s1 HSC.out ?s2 HL2.out HEQ.out).mono ?_); (case s1 => exact Kd.C_below HSR.out (below_step HB.out HX.out.bel)); (case s2 => exact Kd.C_below HI2.out HX.out.bel); rintro e w5 ⟨rfl, hd⟩; rw [HDE.out]; have hb := hd.below; clear hd; have hn_ := Aside0.mk (HX.out.next hb); clear HX hb; have HX := hn_; clear hn_; (try clear ci n0 n1 n2 k0 k1); have ci := HX.out.ci; have n0 := HX.out.n0; have n1 := HX.out.n1; have n2 := HX.out.n2; have k0 := HX.out.k0; have k1 := HX.out.k1) | ((with_reducible refine wpList_im_put (o := ⟨none, .mapUpdate 56 _ _ _, _, _, _, _⟩) rfl _ _ _ (Or.inr rfl) Try.underlying56 Try.underlying3 _ _ (HIM.out.below HX.out.bel HNL.out) rfl rfl rfl ?_); intro w6 him hgr; have HIM6 := Aside0.mk him; have HGR := Aside0.mk hgr; clear him hgr))
          go_roundg (l0.length - (kk + 1))
          case measure => have := HK.out; omega
          case rel =>
           have hbel := below_step HB.out HX.out.bel
           have hlt6 := Nat.lt_of_lt_of_le HNL.out HX.out.bel.size
           refine ⟨kk + 1, _, shPut at_ n.f2 sh, by go_num, ⟨by have := HK.out; omega, by omega⟩, ⟨hbel.grown HGR.out (Nat.le_trans HB.out.size HX.out.bel.size) (fun k hk => by injection hk with hk; have := HS.out; omega), ⟨HS.out.1, HS.out.2.1, Nat.lt_of_lt_of_le hlt6 HGR.out.size⟩, (HKI.out.below HX.out.bel HKL.out).keep (HGR.out.block bk (Nat.lt_of_lt_of_le HKL.out HX.out.bel.size) (by have := HS.out.2.1; simp; omega)), HIM6.out, HSH.out.put at_ HL2.out HI2w.out⟩, ⟨?_⟩⟩
           rw [HA.out, gall, gstep, HGK.out]
           simp only [HLA.out, HWT.out, HANY.out, and_self, if_true, HNM.out, HSE.out]
           norm_cast
         ·have hgs : gseen at_ n.f2 sh = none := by rw [gseen, h2]; simp only [hs, if_false]
          have HEQ := Aside0.mk (gc_eq s n.f2 hlen10)
          have HDE := Aside0.mk (show decide (s = n.f2) = false from decide_eq_false hs)
          obtain rfl : r = false := by
           rw [← HH.out, HA.out, gall, gstep, HGK.out]
           simp only [HLA.out, HWT.out, HANY.out, and_self, if_true, HNM.out, hgs, Bool.false_and]
          clear h1 h2 h3 h4 hs hlen hlen10 hgs
          go_wp2_with (first | (with_reducible refine wpList_im_hit (o := ⟨_, .lookup 54 _ _ true, _, _, _, _⟩) rfl _ _ rfl Try.underlying54 Try.underlying3 (hz49 _) _ _ HGET.out (HKI.out.below (below_alloc (below_alloc (Below.refl _ _) _) _) HKL.out) rfl rfl ?_) | (go_at_call 34; (with_reducible refine (graph_well.calls 8 n.f0 A1 c1 n.f1 A2 c2 n.f2 ka kn _ _ ?s1 HL1.out ?s2 HL2.out HW.out).mono ?_); (case s1 => exact Kd.C_below HI1.out HX.out.bel); (case s2 => exact Kd.C_below HI2.out HX.out.bel); rintro e w2 ⟨rfl, hb⟩; have hn_ := Aside0.mk (HX.out.next hb); clear HX hb; have HX := hn_; clear hn_; (try clear ci n0 n1 n2 k0 k1); have ci := HX.out.ci; have n0 := HX.out.n0; have n1 := HX.out.n1; have n2 := HX.out.n2; have k0 := HX.out.k0; have k1 := HX.out.k1) | (go_at_call 35; (with_reducible refine (slices_ContainsFunc_int_int_35.by_ (gahead kk) 33 #[.pointer (some ⟨wr.heap.size, 0, none⟩)] A1 c1 n.f1 _ ?s1 ?s2 ?s3).mono ?_); (case s1 => exact Kd.C_below HI1.out HX.out.bel); (case s2 => exact enters_ Try.prog Try.func33 (by kernel_rfl) rfl); (case s3 => exact fun W x _ hb => ahead_calls x kk ⟨wr.heap.size, 0, none⟩ W (pw_cell_below hb HX.out.ci)); rintro e w3 ⟨rfl, hb⟩; rw [HANY.out]; have hn_ := Aside0.mk (HX.out.next hb); clear HX hb; have HX := hn_; clear hn_; (try clear ci n0 n1 n2 k0 k1); have ci := HX.out.ci; have n0 := HX.out.n0; have n1 := HX.out.n1; have n2 := HX.out.n2; have k0 := HX.out.k0; have k1 := HX.out.k1) | (go_at_call 36; (with_reducible refine (graph_name.calls n.f0 A1 c1 n.f1 A2 c2 n.f2 _ _ _ ?s1 HL1.out ?s2 HL2.out HN.out).mono ?_); (case s1 => exact Kd.C_below HI1.out HX.out.bel); (case s2 => exact Kd.C_below HI2.out HX.out.bel); rintro e w4 ⟨rfl, hb⟩; have hn_ := Aside0.mk (HX.out.next hb); clear HX hb; have HX := hn_; clear hn_; (try clear ci n0 n1 n2 k0 k1); have ci := HX.out.ci; have n0 := HX.out.n0; have n1 := HX.out.n1; have n2 := HX.out.n2; have k0 := HX.out.k0; have k1 := HX.out.k1) | (with_reducible refine wpList_im_hit (o := ⟨_, .lookup 56 _ _ true, _, _, _, _⟩) rfl _ _ rfl Try.underlying56 Try.underlying3 (hz34 _) _ _ HSG.out (HIM.out.below HX.out.bel HNL.out) rfl rfl ?_) | (go_at_call 37; (with_reducible refine (slices_Equal_int_int.calls 12 As cs s A2 c2 n.f2 _ _ ?s1 HSC.out ?s2 HL2.out HEQ.out).mono ?_); (case s1 => exact Kd.C_below HSR.out (below_step HB.out HX.out.bel)); (case s2 => exact Kd.C_below HI2.out HX.out.bel); rintro e w5 ⟨rfl, hd⟩; rw [HDE.out]; have hb := hd.below; clear hd; have hn_ := Aside0.mk (HX.out.next hb); clear HX hb; have HX := hn_; clear hn_; (try clear ci n0 n1 n2 k0 k1); have ci := HX.out.ci; have n0 := HX.out.n0; have n1 := HX.out.n1; have n2 := HX.out.n2; have k0 := HX.out.k0; have k1 := HX.out.k1))
          go_ret
          exact ⟨rfl, below_step HB.out HX.out.bel⟩
    ·have hb0 : ((n.f1.length : Int) == ka) = false := beq_eq_false_iff_ne.mpr ha
     have hb1 : ((n.f1.length : Int) != ka) = true := bne_iff_ne.mpr ha
     obtain rfl : r = false := by
      rw [← HH.out, HA.out]
      simp [gall, gstep, HGK.out, ha]
     clear ha
     go_wp2_with (with_reducible refine wpList_im_hit (o := ⟨_, .lookup 54 _ _ true, _, _, _, _⟩) rfl _ _ rfl Try.underlying54 Try.underlying3 (hz49 _) _ _ HGET.out (HKI.out.below (below_alloc (below_alloc (Below.refl _ _) _) _) HKL.out) rfl rfl ?_)
     go_ret
     exact ⟨rfl, below_alloc (below_alloc (below_alloc HB.out _) _) _⟩
  ·have hke : kk = l0.length := by have := HK.out; omega
   have hbz : decide ((kk : Int) < (l0.length : Int)) = false := decide_eq_false (by omega)
   have hbz2 : decide (kk < l0.length) = false := decide_eq_false hlt
   have hga : gall 0 l0 [] = true := by
    rw [HA.out, hke, List.drop_length]
    rfl
   have HB := Aside0.mk HG.out.bel
   have HGA := Aside0.mk hga
   clear hga hke HA HG hk1 hk2 HK3 HB1 hlt
   by_cases hp : 0 < l0.length
   ·have d1 : decide (0 < (l0.length : Int)) = true := decide_eq_true (by omega)
    have d2 : decide (0 < l0.length) = true := decide_eq_true hp
    by_cases h24 : l0.length ≤ 24
    ·have d3 : decide ((l0.length : Int) ≤ 24) = true := decide_eq_true (by omega)
     have d4 : decide (l0.length ≤ 24) = true := decide_eq_true h24
     obtain rfl : r = true := by rw [← HH.out, HGA.out, d2, d4]; rfl
     clear hp h24
     go_wp2
     go_ret
     exact ⟨rfl, HB.out⟩
    ·have d3 : decide ((l0.length : Int) ≤ 24) = false := decide_eq_false (by omega)
     have d4 : decide (l0.length ≤ 24) = false := decide_eq_false h24
     obtain rfl : r = false := by rw [← HH.out, HGA.out, d2, d4]; rfl
     clear hp h24
     go_wp2
     go_ret
     exact ⟨rfl, HB.out⟩
   ·have d1 : decide (0 < (l0.length : Int)) = false := decide_eq_false (by omega)
    have d2 : decide (0 < l0.length) = false := decide_eq_false hp
    obtain rfl : r = false := by rw [← HH.out, HGA.out, d2]; rfl
    clear hp
    go_wp2
    go_ret
    exact ⟨rfl, HB.out⟩


/-! ### graph_Arity: function 20 (given) -/
/-- Of how many nodes something is reckoned. -/
def aritV (op : Int) : Int := match gkind op with
  | some kd => kd.1
  | none => -1
def graph_Arity.f (op : Int) : Option Int := some (aritV op)
set_option maxHeartbeats 8000000 in
set_option maxRecDepth 100000 in
theorem graph_Arity.calls (a0 : Int) (r : Int) (w : World) (h : graph_Arity.f a0 = some r) : Calls Try.prog 20 #[.int .i64 a0] w fun e w' => e = .returned (.int .i64 r) ∧ Below w.heap.size w w' := by
  obtain rfl := Option.some.inj h
  clear h
  have hz49 : ∀ W : World, (zeroValue 58).run Try.prog W = .ok (.agg #[.int .i64 0, .int .i64 0]) W := fun W => by kernel_rfl
  have hget := kindGet a0
  cases hg : gkind a0 with
  | none =>
    rw [hg] at hget
    have HGET := Aside0.mk hget
    have e : aritV a0 = -1 := by unfold aritV; rw [hg]
    rw [e]
    clear hg hget e
    go_enter Try.func20, Try.ntmps20
    go_wp2_with fail
    refine (graph_kinds.calls _).mono ?_
    rintro e w1 ⟨bk, rfl, hbk, hlt, hki, hb1⟩
    have HKI := Aside0.mk hki
    have HB := Aside0.mk hb1
    clear hki hb1
    go_wp2_with (with_reducible refine wpList_im_miss (o := ⟨_, .lookup 54 _ _ true, _, _, _, _⟩) rfl _ _ rfl Try.underlying54 Try.underlying3 (hz49 _) _ HGET.out HKI.out rfl rfl ?_)
    go_ret
    exact ⟨rfl, below_alloc HB.out _⟩
  | some kd =>
    obtain ⟨ka, kn⟩ := kd
    rw [hg] at hget
    have HGET := Aside0.mk hget
    have e : aritV a0 = ka := by unfold aritV; rw [hg]
    rw [e]
    clear hg hget e
    go_enter Try.func20, Try.ntmps20
    go_wp2_with fail
    refine (graph_kinds.calls _).mono ?_
    rintro e w1 ⟨bk, rfl, hbk, hlt, hki, hb1⟩
    have HKI := Aside0.mk hki
    have HB := Aside0.mk hb1
    clear hki hb1
    go_wp2_with (with_reducible refine wpList_im_hit (o := ⟨_, .lookup 54 _ _ true, _, _, _, _⟩) rfl _ _ rfl Try.underlying54 Try.underlying3 (hz49 _) _ _ HGET.out HKI.out rfl rfl ?_)
    go_ret
    exact ⟨rfl, below_alloc HB.out _⟩


/-! ### infer_Node_1: function 21 -/
def infer_Node_1.f (k : Nat) (l0 : List Int) : Option (Bool) := (shape_Check.f k l0).bind fun t116 => (some (!t116))
theorem infer_Node_1.mono : ∀ a0 k, LeO (infer_Node_1.f k a0) (infer_Node_1.f (k + 1) a0) := by
  intro a0 k
  unfold infer_Node_1.f
  repeat' first
      | (with_reducible exact shape_Check.mono _ _)
      | (with_reducible exact LeO.refl _)
      | (with_reducible exact LeO.none _)
      | (with_reducible refine LeO.ite ?_ ?_)
      | (with_reducible refine LeO.bind ?_ (fun _ => ?_))
      | exact shape_Check.mono _ _
      | exact LeO.none _
      | refine LeO.ite ?_ ?_
      | refine LeO.bind ?_ (fun _ => ?_)
set_option maxHeartbeats 8000000 in
set_option maxRecDepth 100000 in
theorem infer_Node_1.calls (k : Nat) (A0 : Option Addr) (c0 : Nat) (l0 : List Int) (r : Bool) (w : World) (hr0 : Kd.C (Kd.int .i64) w A0 l0.length l0) (hc0 : l0.length ≤ c0) (h : infer_Node_1.f k l0 = some r) :
    Calls Try.prog 21 #[.slice A0 l0.length c0] w fun e w' => e = .returned (.bool r) ∧ Drawn0 w w' := by
  have HR0 := Aside0.mk hr0
  have HC0 := Aside0.mk hc0
  clear hr0 hc0
  have H : ((shape_Check.f k l0).bind fun t116 => (some (!t116))) = some r := h
  clear h
  replace H := Option.bind_eq_some_iff.mp H
  obtain ⟨t116, A20, H⟩ := H
  replace H : (some (!t116)) = some r := H
  have A2 := Aside0.mk A20
  clear A20
  obtain rfl := Option.some.inj H
  go_enter Try.func21, Try.ntmps21
  go_wp2_with (first | ((with_reducible refine gate_callee (f := 18) rfl ?_); refine goesL_ (some 4) rfl rfl Try.func18 (by kernel_rfl) rfl #[.slice A0 l0.length c0] rfl (by (try simp only [List.map_toArray, List.map_cons, List.map_nil]); first | done | rfl | (simp only [List.length_drop, List.length_take]; rfl)) ?_; (with_reducible refine (shape_Check.calls k _ _ l0 t116 _ ?side1 ?side2 A2.out).mono ?_); (case side1 => repeat (first | exact HR0.out | (with_reducible refine Kd.C_alloc ?_ _) | (with_reducible refine Kd.C_drewN ?_ _) | (with_reducible refine Kd.C_drew ?_))); (case side2 => exact HC0.out); rintro e w' ⟨rfl, ⟨nd, rfl⟩⟩; refine ⟨_, rfl, ?_⟩))
  go_ret
  exact ⟨by first | rfl | (simp; done) | (simp [*]; done), by repeat (first | exact Drawn0.refl _ | apply Drawn0.step)⟩

/-! ### slices_IndexFunc_int_int_38: function 38 (given) -/
set_option maxHeartbeats 8000000 in
set_option maxRecDepth 100000 in
theorem slices_IndexFunc_int_int_38.by_ (q : List Int → Bool) (g : Nat) (lb : Array Value) (A0 : Option Addr) (c0 : Nat) (l0 : List (List Int)) (w : World) (hr0 : Kd.C (Kd.slice 3 (Kd.int .i64)) w A0 l0.length l0)
    (eg : ∀ args W, (callFunc g args).run Try.prog W = .ok (.enter g args) W)
    (hp : ∀ (W : World) (x : List Int) (A0_ : Option Addr) (c0_ : Nat), x ∈ l0 → Below w.heap.size w W → x.length ≤ c0_ → Kd.C (Kd.int .i64) W A0_ x.length x → Calls Try.prog g (#[.slice A0_ x.length c0_] ++ lb) W fun e w' => e = .returned (.bool (q x)) ∧ Below W.heap.size W w') :
    Calls Try.prog 38 #[.slice A0 l0.length c0, .func (.func g) #[] lb] w fun e w' => e = .returned (.int .i64 (idxF q 0 l0)) ∧ Below w.heap.size w w' := by
  have HR := Aside0.mk hr0
  have hbig := hr0.2.1
  clear hr0
  go_enter Try.func38, Try.ntmps38
  go_wp2
  go_loopg [5, 8] l0.length (fun gg _ s8 wr => ∃ kk : Nat, kk ≤ l0.length ∧ l0.length - kk ≤ gg ∧ s8 = .int .i64 kk ∧ Aside0 (Below w.heap.size w wr) ∧ Aside0 (∀ (j : Nat) (y : List Int), j < kk → l0[j]? = some y → q y = false))
  case atStart => exact ⟨0, Nat.zero_le _, by omega, rfl, ⟨Below.refl _ w⟩, ⟨fun j y hj => absurd hj (Nat.not_lt_zero _)⟩⟩
  case round =>
    obtain ⟨kk, hkk, hg, rfl, BW, AA⟩ := hrel
    by_cases hlt : kk < l0.length
    · have hltz : (kk : Int) < (l0.length : Int) := by omega
      obtain ⟨ad, A0_, c0_, rfl, hx0, hl0, hi0⟩ := at_L1 (Kd.C_below HR.out BW.out) (kk : Int) (by omega) hltz
      have hE := show l0[kk]? = some (rd_L1 l0 (kk : Int)) by simp [rd_L1, hlt]
      have hcall := hp wr (rd_L1 l0 (kk : Int)) A0_ c0_ (List.mem_of_getElem? hE) BW.out hl0 hi0
      have HE := Aside0.mk hE
      clear hp hE hl0 hi0
      (try simp only [Int.toNat_natCast] at hx0)
      generalize rd_L1 l0 (kk : Int) = y at hx0 hcall HE
      cases hq : q y with
      | true =>
        have HQ := Aside0.mk hq
        rw [hq] at hcall
        have HCALL := Aside0.mk hcall
        clear hq hcall
        go_wp2_with fail
        refine HCALL.out.mono ?_
        rintro e w' ⟨rfl, hb⟩
        have hb' := Aside0.mk hb
        clear hb HCALL
        go_wp2
        go_ret
        refine ⟨?_, below_step BW.out hb'.out⟩
        rw [idxF_hit q l0 0 kk y HE.out HQ.out AA.out, Nat.zero_add]
        rfl
      | false =>
        have HQ := Aside0.mk hq
        rw [hq] at hcall
        have HCALL := Aside0.mk hcall
        clear hq hcall
        go_wp2_with fail
        refine HCALL.out.mono ?_
        rintro e w' ⟨rfl, hb⟩
        have hb' := Aside0.mk hb
        clear hb HCALL
        go_wp2
        go_roundg (l0.length - (kk + 1))
        case measure => omega
        case rel =>
          refine ⟨kk + 1, by omega, by omega, by go_num, ⟨below_step BW.out hb'.out⟩, ⟨fun j z hj hz => ?_⟩⟩
          by_cases e : j = kk
          · subst e
            rw [HE.out] at hz
            cases hz
            exact HQ.out
          · exact AA.out j z (by omega) hz
    · have hltz : ¬ (kk : Int) < (l0.length : Int) := by omega
      have hkl : kk = l0.length := by omega
      have HK := Aside0.mk hkl
      clear hkl
      go_wp2
      go_ret
      refine ⟨?_, BW.out⟩
      rw [idxF_miss q l0 0 (fun j y hy => AA.out j y (by have := (List.getElem?_eq_some_iff.1 hy).1; have := HK.out; omega) hy)]
      rfl

end Go.Proofs.Ytalmgghhpgfgoaa.A
