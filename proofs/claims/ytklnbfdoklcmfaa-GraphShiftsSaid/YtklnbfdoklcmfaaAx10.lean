/- Lean functions that answer as the Go functions do, and the proofs that they do; no conditions. Written by this session's own driver: a scratch copy of the kit's print with the session's additions (wip/xprint). -/
import Derived.Test.YtklnbfdoklcmfaaAx0
import Derived.Test.YtklnbfdoklcmfaaAx1
import Derived.Test.YtklnbfdoklcmfaaAx2
namespace Go.Proofs.Ytklnbfdoklcmfaa.A
open Go.RowKit Go.Proofs.YtklnbfdoklcmfaaW.PrintWords Go.Proofs.YtklnbfdoklcmfaaW.PrintLast Go.Proofs.YtklnbfdoklcmfaaW.PrintMore
attribute [local go_sem] max2_int min2_int max_two min_two max_three min_three max_four min_four   -- for this text's walks alone
set_option linter.unusedVariables false
set_option linter.unusedSimpArgs false

-- NOT PRINTED: function 42 (slices_pdqsortOrdered_int)

/-! ### slices_Sort_int_int: function 36 (given) -/
/-- Numbers in order. -/
def insI (x : Int) : List Int → List Int
  | [] => [x]
  | y :: r => if x ≤ y then x :: y :: r else y :: insI x r
def sortI : List Int → List Int
  | [] => []
  | x :: r => insI x (sortI r)
theorem insI_perm (x : Int) : ∀ l : List Int, (insI x l).Perm (x :: l)
  | [] => List.Perm.refl _
  | y :: r => by
    unfold insI
    split
    · exact List.Perm.refl _
    · exact ((insI_perm x r).cons y).trans (List.Perm.swap x y r)
theorem sortI_perm : ∀ l : List Int, (sortI l).Perm l
  | [] => List.Perm.refl _
  | x :: r => (insI_perm x (sortI r)).trans ((sortI_perm r).cons x)
theorem insI_rises (x : Int) : ∀ l : List Int, l.Pairwise (· ≤ ·) → (insI x l).Pairwise (· ≤ ·)
  | [], _ => by simp [insI]
  | y :: r, h => by
    have h' := List.pairwise_cons.1 h
    unfold insI
    split
    · rename_i c
      refine List.pairwise_cons.2 ⟨fun z hz => ?_, h⟩
      rcases List.mem_cons.1 hz with rfl | hz
      · exact c
      · exact Int.le_trans c (h'.1 z hz)
    · rename_i c
      refine List.pairwise_cons.2 ⟨fun z hz => ?_, insI_rises x r h'.2⟩
      rcases List.mem_cons.1 ((insI_perm x r).mem_iff.1 hz) with rfl | hz
      · omega
      · exact h'.1 z hz
theorem sortI_rises : ∀ l : List Int, (sortI l).Pairwise (· ≤ ·)
  | [] => List.Pairwise.nil
  | x :: r => insI_rises x _ (sortI_rises r)
theorem rises_eq : ∀ a b : List Int, a.Pairwise (· ≤ ·) → b.Pairwise (· ≤ ·) → a.Perm b → a = b
  | [], b, _, _, h => (List.Perm.nil_eq h)
  | x :: a, [], _, _, h => absurd h.length_eq (by simp)
  | x :: a, y :: b, ha, hb, h => by
    have ha' := List.pairwise_cons.1 ha
    have hb' := List.pairwise_cons.1 hb
    have hx : x = y := by
      have m1 : x ∈ y :: b := h.mem_iff.1 List.mem_cons_self
      have m2 : y ∈ x :: a := h.mem_iff.2 List.mem_cons_self
      rcases List.mem_cons.1 m1 with e | m1
      · exact e
      · rcases List.mem_cons.1 m2 with e | m2
        · exact e.symm
        · have := hb'.1 x m1
          have := ha'.1 y m2
          omega
    subst hx
    rw [rises_eq a b ha'.2 hb'.2 (List.Perm.cons_inv h)]
theorem merge_sortI (l : List Int) : (l.mergeSort fun x y => decide (x ≤ y)) = sortI l := by
  refine rises_eq _ _ ?_ (sortI_rises l) ((List.mergeSort_perm l _).trans (sortI_perm l).symm)
  have := List.pairwise_mergeSort (le := fun x y : Int => decide (x ≤ y)) (fun a b c h1 h2 => by simp at *; omega) (fun a b => by simp; omega) l
  exact this.imp (fun h => by simpa using h)
theorem enc_cell' {l : List Int} {cs : Array Value} (ht : cs.toList.take l.length = encs (Value.int .i64) l) {k : Nat} (hk : k < l.length) : cs[k]? = some (.int .i64 l[k]) := by
  have h1 : (cs.toList.take l.length)[k]? = cs.toList[k]? := List.getElem?_take_of_lt hk
  rw [ht] at h1
  rw [← Array.getElem?_toList, ← h1]
  simp [encs, hk]
/-- A row's block behind what wrote numbers into it from its begin on. -/
theorem put_own {w0 w w' : World} {P : Nat → Prop} {g cap : Nat} {cur : Array Value} {d : List Int} {n : Nat} {os : Array Obj} {m : Nat}
    (hB : Below w0.heap.size w0 w) (hP : P g) (hg : w0.heap.size ≤ g) (hb : w.heap[g]? = some (.cells cur 3 (0, 0))) (hcs : cur.size = cap) (hd : d.length ≤ cap) (hcm : cap ≤ maxLen) (hm : m ≤ d.length)
    (hw : w' = Sort.grow (Sort.putRow (Value.int .i64) (Sort.ahead w n) g 0 d.toArray) os) :
    Kd.R (Kd.int .i64) 3 w' w0.heap.size (fun k_ => P k_ ∨ w.heap.size ≤ k_) (.slice (some ⟨g, 0, none⟩) m cap) (d.take m) ∧ Below w0.heap.size w0 w' ∧ Kept w w' (fun k_ => P k_) := by
  have hgl := blk_lt hb
  have other : ∀ i, i < w.heap.size → i ≠ g → w'.heap[i]? = w.heap[i]? := by
    intro i hi hne
    rw [hw]
    show ((w.heap.modify g _) ++ os)[i]? = _
    rw [Array.getElem?_append, if_pos (by rw [Array.size_modify]; exact hi), Array.getElem?_modify, if_neg (fun e => hne e.symm)]
  have blk : w'.heap[g]? = some (.cells (Sort.putCells (Value.int .i64) 0 d.toArray cur) 3 (0, 0)) := by
    rw [hw]
    show ((w.heap.modify g _) ++ os)[g]? = _
    rw [Array.getElem?_append, if_pos (by rw [Array.size_modify]; exact hgl), Array.getElem?_modify, if_pos rfl, hb]
    rfl
  have hsz : w.heap.size ≤ w'.heap.size := by
    rw [hw]
    show w.heap.size ≤ ((w.heap.modify g _) ++ os).size
    rw [Array.size_append, Array.size_modify]
    omega
  refine ⟨Kd.R_of_own (v := .slice (some ⟨g, 0, none⟩) m cap) ?_ (fun k hk => by simp [Value.ownBlock] at hk; subst hk; exact .inl hP), hB.trans ⟨?_, ?_, ?_, hsz, fun i hi => other i (Nat.lt_of_lt_of_le hi hB.size) (by omega)⟩, hsz, fun i hi hn => other i hi (fun e => hn (e ▸ hP))⟩
  · have e : (d.take m).length = m := by rw [List.length_take]; omega
    rw [show Value.slice (some ⟨g, 0, none⟩) m cap = .slice (some ⟨g, 0, none⟩) (d.take m).length cap by rw [e]]
    refine ⟨by simp [encs], .inr ⟨g, cap, _, rfl, hg, blk, by omega, hcm, ?_, ?_⟩⟩
    · rw [Nat.mul_one, Sort.putCells, Array.size_mapIdx, hcs]
    · rw [Nat.mul_one, e]
      apply List.ext_getElem?
      intro k
      rw [List.getElem?_take, encs, List.getElem?_map, List.getElem?_take]
      by_cases hk : k < m
      · have hkd : k < d.length := by omega
        have hkc : k < cur.size := by omega
        rw [if_pos hk, if_pos hk, Array.getElem?_toList, Sort.putCells, Array.getElem?_mapIdx, Array.getElem?_eq_getElem hkc, Option.map_some, if_pos ⟨by omega, by rw [List.size_toArray]; omega⟩]
        simp [hkd]
      · rw [if_neg hk, if_neg hk]
        rfl
  · rw [hw]; rfl
  · rw [hw]; rfl
  · rw [hw]; rfl
/-- slices.Sort of a row of one's own. -/
def slices_Sort_int_int.f (l0 : List Int) : Option (List Int) := if l0.length < 4611686018427387904 then some (sortI l0) else none
set_option maxHeartbeats 8000000 in
theorem slices_Sort_int_int.calls (P0_ : Nat → Prop) (u9000_ : Value) (l0 : List Int) (r : List Int) (w0 w : World) (hB : Below w0.heap.size w0 w) (ho0 : Kd.R (Kd.int .i64) 3 w w0.heap.size P0_ u9000_ l0) (h : slices_Sort_int_int.f l0 = some r) :
    Calls Try.prog 36 #[u9000_] w fun e w' => e = .returned (.tuple #[]) ∧ Kd.R (Kd.int .i64) 3 w' w0.heap.size (fun k_ => (P0_ k_ ∨ w.heap.size ≤ k_)) u9000_ r ∧ Below w0.heap.size w0 w' ∧ Kept w w' (fun k_ => P0_ k_) := by
  have hll : l0.length < 4611686018427387904 := by
    unfold slices_Sort_int_int.f at h
    split at h
    · assumption
    · cases h
  unfold slices_Sort_int_int.f at h
  rw [if_pos hll] at h
  obtain rfl := Option.some.inj h
  obtain ⟨hlen, ⟨rfl, h0⟩ | ⟨g, cap, cur, rfl, hg, hb, hcap, hcm, hcs, htk⟩⟩ := Kd.own_of_R ho0
  · obtain rfl := List.length_eq_zero_iff.1 h0
    refine (Try.slices_Sort_int_none none 0 w).mono ?_
    rintro e w' ⟨rfl, rfl⟩
    exact ⟨rfl, Kd.R_mono ho0 (fun k_ hk => .inl hk), hB, Kept.refl _ _⟩
  · rw [Nat.mul_one] at hcs htk
    have hP := ho0.1 g rfl
    have hH : Sort.Holds (Value.int .i64) w g 0 l0.toArray := by
      intro j hj
      have hj' : j < l0.length := by simpa using hj
      refine ⟨?_, blk_frozen hb _⟩
      rw [blk_cell hb, Nat.zero_add, enc_cell' htk hj']
      simp [hj']
    refine (Try.slices_Sort_int g 0 cap l0 w hH (blk_lt hb) hll).mono ?_
    rintro e w' ⟨rfl, n, os, hw⟩
    have hl : (sortI l0).length = l0.length := (sortI_perm l0).length_eq
    rw [merge_sortI] at hw
    have := put_own (m := l0.length) hB hP hg hb hcs (by omega) hcm (by omega) hw
    rw [List.take_of_length_le (by omega)] at this
    exact ⟨rfl, this⟩


/-! ### slices_Compact_int_int: function 37 (given) -/
/-- Numbers of which none is as the one ahead of it. -/
def cmpL : Option Int → List Int → List Int
  | _, [] => []
  | none, y :: r => y :: cmpL (some y) r
  | some p, y :: r => if y = p then cmpL (some y) r else y :: cmpL (some y) r
def prevI (l : List Int) : Nat → Option Int
  | 0 => none
  | m + 1 => l[m]?
theorem cmp_step (l : List Int) (d : Nat) : ∀ m, l.length - m = d → m ≤ l.length → Lib.compactUpTo l.toArray l.length = Lib.compactUpTo l.toArray m ++ cmpL (prevI l m) (l.drop m) := by
  induction d with
  | zero =>
    intro m hd hm
    obtain rfl : m = l.length := by omega
    rw [List.drop_eq_nil_of_le (Nat.le_refl _)]
    simp [cmpL]
  | succ d ih =>
    intro m hd hm
    have hml : m < l.length := by omega
    have e : l.toArray[m]! = l[m] := by simp [hml]
    rw [ih (m + 1) (by omega) (by omega), Lib.compactUpTo_succ, List.drop_eq_getElem_cons hml, List.append_assoc, e]
    congr 1
    have ep : prevI l (m + 1) = some l[m] := List.getElem?_eq_getElem hml
    rw [ep]
    cases m with
    | zero =>
      have hk : Lib.keeps l.toArray 0 = true := Lib.keeps_lt_one _ 0 (by omega)
      rw [hk]
      rfl
    | succ q =>
      have eq' : l.toArray[q]! = l[q] := by simp [show q < l.length by omega]
      have ep' : prevI l (q + 1) = some l[q] := List.getElem?_eq_getElem (by omega)
      rw [ep']
      by_cases c : l[q + 1] = l[q]
      · have hk : Lib.keeps l.toArray (q + 1) = false := Lib.keeps_neg (by omega) (by rw [e, Nat.add_sub_cancel, eq', c])
        rw [hk, cmpL, if_pos c]
        rfl
      · have hk : Lib.keeps l.toArray (q + 1) = true := Lib.keeps_pos (by rw [e, Nat.add_sub_cancel, eq']; exact c)
        rw [hk, cmpL, if_neg c]
        rfl
theorem compact_cmpL (l : List Int) : Lib.compact l = cmpL none l := by
  have := cmp_step l l.length 0 (by omega) (by omega)
  unfold Lib.compact
  rw [this]
  simp [Lib.compactUpTo, prevI]
theorem cmpL_len : ∀ (l : List Int) (p : Option Int), (cmpL p l).length ≤ l.length
  | [], p => by cases p <;> simp [cmpL]
  | y :: r, none => by
    have := cmpL_len r (some y)
    simp [cmpL]
    omega
  | y :: r, some p => by
    have := cmpL_len r (some y)
    unfold cmpL
    split <;> simp <;> omega
/-- slices.Compact of a row of one's own. -/
def slices_Compact_int_int.f (l0 : List Int) : Option (List Int) := some (cmpL none l0)
set_option maxHeartbeats 8000000 in
theorem slices_Compact_int_int.calls (P0_ : Nat → Prop) (u9000_ : Value) (l0 : List Int) (r : List Int) (w0 w : World) (hB : Below w0.heap.size w0 w) (ho0 : Kd.R (Kd.int .i64) 3 w w0.heap.size P0_ u9000_ l0) (h : slices_Compact_int_int.f l0 = some r) :
    Calls Try.prog 37 #[u9000_] w fun e w' => ∃ v0_ : Value, e = .returned (v0_) ∧ Kd.R (Kd.int .i64) 3 w' w0.heap.size (fun k_ => (P0_ k_ ∨ w.heap.size ≤ k_)) v0_ r ∧ Below w0.heap.size w0 w' ∧ Kept w w' (fun k_ => P0_ k_) := by
  obtain rfl := Option.some.inj h
  obtain ⟨hlen, ⟨rfl, h0⟩ | ⟨g, cap, cur, rfl, hg, hb, hcap, hcm, hcs, htk⟩⟩ := Kd.own_of_R ho0
  · obtain rfl := List.length_eq_zero_iff.1 h0
    refine (Try.slices_Compact_int_empty none 0 w).mono ?_
    rintro e w' ⟨rfl, rfl⟩
    exact ⟨_, rfl, Kd.R_mono ho0 (fun k_ hk => .inl hk), hB, Kept.refl _ _⟩
  · rw [Nat.mul_one] at hcs htk
    have hP := ho0.1 g rfl
    have hH : Sort.Holds (Value.int .i64) w g 0 l0.toArray := by
      intro j hj
      have hj' : j < l0.length := by simpa using hj
      refine ⟨?_, blk_frozen hb _⟩
      rw [blk_cell hb, Nat.zero_add, enc_cell' htk hj']
      simp [hj']
    refine (Try.slices_Compact_int g 0 cap l0 w hH (by unfold maxLen at hcm; omega) hcap).mono ?_
    rintro e w' ⟨rfl, n, hw⟩
    rw [compact_cmpL] at hw ⊢
    have hl := cmpL_len l0 none
    refine ⟨_, rfl, ?_⟩
    have := put_own (os := #[]) (m := (cmpL none l0).length) hB hP hg hb hcs (by simp; omega) hcm (by simp) (hw.trans (Sort.grow_empty _).symm)
    rw [List.take_append_of_le_length (Nat.le_refl _), List.take_of_length_le (Nat.le_refl _)] at this
    exact this


/-! ### graph_Params: function 18 -/
def graph_Params.l0 : Nat → List Int → List (S35) → Int → Int → Option (List Int)
 | 0, _, _, _, _ => none
 | k + 1, x2, x10, x11, x12 => if x12 < x11 then (if 0 ≤ x12 then (if x12 < (x10.length : Int) then ((graph_name.f ((rd_T35 x10 x12).f0) ((rd_T35 x10 x12).f1) ((rd_T35 x10 x12).f2)).bind fun bt237 => (if bt237.2 = true then (if bt237.1 ≥ 0 then (if x2.length < 17592186044416 then (graph_Params.l0 k (x2 ++ [bt237.1]) x10 x11 (wrap64 (x12 + 1))) else (none)) else (graph_Params.l0 k x2 x10 x11 (wrap64 (x12 + 1)))) else (graph_Params.l0 k x2 x10 x11 (wrap64 (x12 + 1))))) else (none)) else (none)) else ((slices_Sort_int_int.f x2).bind fun t242 => ((slices_Compact_int_int.f t242).bind fun t243 => (some t243)))
def graph_Params.f (k : Nat) (l0 : List (S35)) : Option (List Int) := (graph_Check.f l0).bind fun t234 => (if t234 = true then (graph_Params.l0 k ([] : List Int) l0 (l0.length : Int) 0) else (some ([] : List Int)))
theorem graph_Params.mono_l : ∀ k, (∀ y0 y1 y2 y3, LeO (graph_Params.l0 k y0 y1 y2 y3) (graph_Params.l0 (k + 1) y0 y1 y2 y3))
 | 0 => fun _ _ _ _ r h => by simp [graph_Params.l0] at h
 | k + 1 => by
  have ih0 := graph_Params.mono_l k
  ·intro y0 y1 y2 y3
   unfold graph_Params.l0
   repeat' first
   | (with_reducible exact ih0 _ _ _ _)
   | (with_reducible exact LeO.refl _)
   | (with_reducible exact LeO.none _)
   | (with_reducible refine LeO.ite ?_ ?_)
   | (with_reducible refine LeO.bind ?_ (fun _ => ?_))
   | exact ih0 _ _ _ _
   | exact LeO.none _
   | refine LeO.ite ?_ ?_
   | refine LeO.bind ?_ (fun _ => ?_)
theorem graph_Params.mono : ∀ a0 k, LeO (graph_Params.f k a0) (graph_Params.f (k + 1) a0) := by
 intro a0 k
 have ih0 := graph_Params.mono_l k
 unfold graph_Params.f
 repeat' first
   | (with_reducible exact ih0 _ _ _ _)
   | (with_reducible exact LeO.refl _)
   | (with_reducible exact LeO.none _)
   | (with_reducible refine LeO.ite ?_ ?_)
   | (with_reducible refine LeO.bind ?_ (fun _ => ?_))
   | exact ih0 _ _ _ _
   | exact LeO.none _
   | refine LeO.ite ?_ ?_
   | refine LeO.bind ?_ (fun _ => ?_)
set_option maxHeartbeats 8000000 in
set_option maxRecDepth 100000 in
theorem graph_Params.calls (k : Nat) (A0 : Option Addr) (c0 : Nat) (l0 : List (S35)) (r : List Int) (w : World) (hr0 : Kd.C k35 w A0 l0.length l0) (hc0 : l0.length ≤ c0) (h : graph_Params.f k l0 = some r) :
  Calls Try.prog 18 #[.slice A0 l0.length c0] w fun e w' => ∃ v0_ : Value, e = .returned (v0_) ∧ Kd.R (Kd.int .i64) 3 w' w.heap.size (fun _ => True) v0_ r ∧ Below w.heap.size w w' := by
 have hu35 := Try.underlying35
 have HR0 := Aside0.mk hr0
 have HC0 := Aside0.mk hc0
 clear hr0 hc0
 have HB := Aside0.mk (Below.refl w.heap.size w)
 have H : ((graph_Check.f l0).bind fun t234 => (if t234 = true then (graph_Params.l0 k ([] : List Int) l0 (l0.length : Int) 0) else (some ([] : List Int)))) = some r := h
 clear h
 replace H := Option.bind_eq_some_iff.mp H
 obtain ⟨t234, A20, H⟩ := H
 replace H : (if t234 = true then (graph_Params.l0 k ([] : List Int) l0 (l0.length : Int) 0) else (some ([] : List Int))) = some r := H
 have A2 := Aside0.mk A20
 clear A20
 by_cases c3 : t234 = true
 ·subst c3
  have H1 : (graph_Params.l0 k ([] : List Int) l0 (l0.length : Int) 0) = some r := by rw [if_pos rfl] at H; exact H
  clear H
  have H := H1
  clear H1
  have H' := Aside0.mk H
  clear H
  go_enter Try.func18, Try.ntmps18
  go_wp2_with (first | ((with_reducible refine gate_callee (f := 13) rfl ?_); refine gL_ (some 8) Try.func13 #[.slice A0 l0.length c0] ?_; (with_reducible refine (graph_Check.calls _ _ l0 true _ ?side1 ?side2 A2.out).mono ?_); (case side1 => exact mvC_ (HR0.out)); (case side2 => exact HC0.out); rintro e w4 ⟨rfl, hb⟩; refine ⟨_, rfl, ?_⟩; replace HB := Aside0.mk (below_step (bq0_ HB.out) hb); (try clear hb)))
  go_loopg [2, 12] k (fun kq v2 v12 w' => ∃ (x2_1 : List Int) (x12_1 : Int), v12 = .int .i64 x12_1 ∧ Aside0 (graph_Params.l0 kq x2_1 l0 (l0.length : Int) x12_1 = some r) ∧ Aside0 (kq ≤ k) ∧ Aside0 (Kd.R (Kd.int .i64) 3 w' w.heap.size (fun _ => True) v2 x2_1) ∧ Aside0 (Below w.heap.size w w'))
  case atStart => exact ⟨(([] : List Int)), (0), (by first | rfl | (simp; done) | (simp [*]; done)), H', ⟨Nat.le_refl _⟩, ⟨by first | exact Kd.R_nil _ _ _ _ _ | exact Kd.N_nil _ _ _ _ _ | exact Kd.V_nil _ _ _ _ _ | exact Kd.Q_nil _ _ _ _ _ | exact Kd.S_nil _ _ _ _ _⟩, ⟨bq0_ HB.out⟩⟩
  case round =>
   clear H'
   try clear c1
   try clear p2
   try clear c3
   obtain ⟨x2_1, x12_1, rfl, HA, HK1, HO_2, HB⟩ := hrel
   cases gk with
   | zero => exact absurd HA.out (by simp [graph_Params.l0])
   | succ k1 =>
    have H := HA.out
    clear HA
    simp only [graph_Params.l0] at H
    by_cases c5 : x12_1 < (l0.length : Int)
    ·rw [if_pos c5] at H
     have c5b0 : decide (x12_1 < (l0.length : Int)) = true := decide_eq_true c5
     clear c5
     by_cases c6 : 0 ≤ x12_1
     ·rw [if_pos c6] at H
      have c6b0 : decide (0 ≤ x12_1) = true := decide_eq_true c6
      clear c6
      by_cases c7 : x12_1 < (l0.length : Int)
      ·rw [if_pos c7] at H
       have c7b0 : decide (x12_1 < (l0.length : Int)) = true := decide_eq_true c7
       clear c7
       replace H := Option.bind_eq_some_iff.mp H
       obtain ⟨⟨t237, t238⟩, A80, H⟩ := H
       replace H : (if t238 = true then (if t237 ≥ 0 then (if x2_1.length < 17592186044416 then (graph_Params.l0 k1 (x2_1 ++ [t237]) l0 (l0.length : Int) (wrap64 (x12_1 + 1))) else (none)) else (graph_Params.l0 k1 x2_1 l0 (l0.length : Int) (wrap64 (x12_1 + 1)))) else (graph_Params.l0 k1 x2_1 l0 (l0.length : Int) (wrap64 (x12_1 + 1)))) = some r := H
       have A8 := Aside0.mk A80
       clear A80
       by_cases c9 : t238 = true
       ·subst c9
        have H1 : (if t237 ≥ 0 then (if x2_1.length < 17592186044416 then (graph_Params.l0 k1 (x2_1 ++ [t237]) l0 (l0.length : Int) (wrap64 (x12_1 + 1))) else (none)) else (graph_Params.l0 k1 x2_1 l0 (l0.length : Int) (wrap64 (x12_1 + 1)))) = some r := by rw [if_pos rfl] at H; exact H
        clear H
        have H := H1
        clear H1
        by_cases c10 : t237 ≥ 0
        ·rw [if_pos c10] at H
         have c10b0 : decide (0 ≤ t237) = true := decide_eq_true c10
         clear c10
         by_cases c11 : x2_1.length < 17592186044416
         ·rw [if_pos c11] at H
          have LMc11 := Aside0.mk c11
          clear c11
          obtain ⟨y239, hy239⟩ : ∃ y_ : List Int, y_ = (x2_1 ++ [t237]) := ⟨_, rfl⟩
          replace H : (graph_Params.l0 k1 y239 l0 (l0.length : Int) (wrap64 (x12_1 + 1))) = some r := by first | (rw [hy239]; with_reducible exact H) | (have H2_ := (Option.bind_some _ _).symm.trans H; rw [hy239]; with_reducible exact H2_) | (have H2_ := (Option.bind_some _ _).symm.trans H; with_reducible exact H2_) | with_reducible exact H | (rw [hy239]; exact H) | exact H
          have Ny239 := Aside0.mk hy239
          clear hy239
          have H' := Aside0.mk H
          clear H
          have p235 : 0 ≤ (x12_1 : Int) := od_
          have q235 : x12_1 < (l0.length : Int) := od_
          obtain ⟨ad235, A235_1, c235_1, A235_2, c235_2, e235, hx235_0, hx235_1, hx235_2, hl235_1, hi235_1, hl235_2, hi235_2⟩ := at_T35 HR0.out x12_1 p235 q235
          cases e235
          replace hx235_0 := (HB.out.cell (World.block_lt_of_cell? w _ hx235_0)).trans hx235_0
          replace hx235_1 := (HB.out.cell (World.block_lt_of_cell? w _ hx235_1)).trans hx235_1
          replace hx235_2 := (HB.out.cell (World.block_lt_of_cell? w _ hx235_2)).trans hx235_2
          have HR235_1 := Aside0.mk hi235_1
          have HC235_1 := Aside0.mk hl235_1
          clear hi235_1 hl235_1
          have HR235_2 := Aside0.mk hi235_2
          have HC235_2 := Aside0.mk hl235_2
          clear hi235_2 hl235_2
          replace p235 := eq_true p235
          replace q235 := eq_true q235
          go_wp2_with (first | ((with_reducible refine gate_dst (N := 4) rfl ?_); refine box_event ?hg (N := 4) ?hd (cs := #[.int .i64 0, .slice none 0 0, .slice none 0 0]) (t := 35) ?hr ?_; (case hd => rfl); (case hg => rfl); (case hr => first | (go_simp; done) | (go_simp; rfl)); intro gb236 hg w12 hbox hb; have BK236 := Aside0.mk (hbox); have GW236 := Aside0.mk ((by rw [hg]; exact (below_size (bq0_ HB.out)) : w.heap.size ≤ gb236)); have GE236 := Aside0.mk ((by rw [hg]; exact (below_size (bq0_ HB.out)) : w.heap.size ≤ gb236)); replace HO_2 := Aside0.mk (Kd.R_below (mvR_ HO_2.out) hb); replace HB := Aside0.mk (below_step (bq0_ HB.out) hb); clear hb hbox hg; have hcz13_0 : w12.cell? ⟨gb236, 0, none⟩ = some (.int .i64 0) := (blk_cell BK236.out 0).trans rfl; have hcz13_1 : w12.cell? ⟨gb236, 1, none⟩ = some (.slice none 0 0) := (blk_cell BK236.out 1).trans rfl; have hcz13_2 : w12.cell? ⟨gb236, 2, none⟩ = some (.slice none 0 0) := (blk_cell BK236.out 2).trans rfl; have hfz13_0 := blk_frozen BK236.out 0; have hfz13_1 := blk_frozen BK236.out 1; have hfz13_2 := blk_frozen BK236.out 2) | ((with_reducible refine gate_callee (f := 32) rfl ?_); refine gL_ (some 18) Try.func32 #[.agg #[.int .i64 ((rd_T35 l0 x12_1).f0), .slice A235_1 ((rd_T35 l0 x12_1).f1).length c235_1, .slice A235_2 ((rd_T35 l0 x12_1).f2).length c235_2]] ?_; (with_reducible refine (graph_name.calls ((rd_T35 l0 x12_1).f0) _ _ ((rd_T35 l0 x12_1).f1) _ _ ((rd_T35 l0 x12_1).f2) t237 true _ ?side1 ?side2 ?side3 ?side4 A8.out).mono ?_); (case side1 => exact Kd.C_below HR235_1.out (bq1_ HB.out GE236.out)); (case side2 => exact HC235_1.out); (case side3 => exact Kd.C_below HR235_2.out (bq1_ HB.out GE236.out)); (case side4 => exact HC235_2.out); rintro e w14 ⟨rfl, hb⟩; refine ⟨_, rfl, ?_⟩; replace HO_2 := Aside0.mk (Kd.R_below (by (with_reducible repeat (first | apply Kd.R_alloc | apply Kd.R_drewN | apply Kd.R_drew)); exact (Kd.R_mono (Kd.R_far (p := ⟨gb236, 2, none⟩) (Kd.R_far (p := ⟨gb236, 1, none⟩) (Kd.R_far (p := ⟨gb236, 0, none⟩) (Kd.R_types HO_2.out BK236.out (by decide)) (fun _ hk => hk.2) (.int .i64 ((rd_T35 l0 x12_1).f0))) (fun _ hk => hk.2) (.slice A235_1 ((rd_T35 l0 x12_1).f1).length c235_1)) (fun _ hk => hk.2) (.slice A235_2 ((rd_T35 l0 x12_1).f2).length c235_2)) (fun _ h_ => h_.1))) hb); replace BK236 := Aside0.mk (blk_below (g := gb236) (o := .cells #[.int .i64 ((rd_T35 l0 x12_1).f0), .slice A235_1 ((rd_T35 l0 x12_1).f1).length c235_1, .slice A235_2 ((rd_T35 l0 x12_1).f2).length c235_2] 35 (0, 0)) (by (with_reducible repeat (first | refine blk_drewN ?_ _ | refine blk_drew ?_ | refine blk_alloc ?_ _)); refine blk_put (cs := #[.int .i64 ((rd_T35 l0 x12_1).f0), .slice A235_1 ((rd_T35 l0 x12_1).f1).length c235_1, .slice none 0 0]) ?_ 2 _ rfl; (with_reducible repeat (first | refine blk_drewN ?_ _ | refine blk_drew ?_ | refine blk_alloc ?_ _)); refine blk_put (cs := #[.int .i64 ((rd_T35 l0 x12_1).f0), .slice none 0 0, .slice none 0 0]) ?_ 1 _ rfl; (with_reducible repeat (first | refine blk_drewN ?_ _ | refine blk_drew ?_ | refine blk_alloc ?_ _)); refine blk_put (cs := #[.int .i64 0, .slice none 0 0, .slice none 0 0]) ?_ 0 _ rfl; (with_reducible repeat (first | refine blk_drewN ?_ _ | refine blk_drew ?_ | refine blk_alloc ?_ _)); exact BK236.out) hb); replace HB := Aside0.mk (below_step (bq1_ HB.out GE236.out) hb); (try clear hb)) | ((with_reducible refine gate_builtin (b := .append) (xs := #[.tmp 26, .tmp 28]) rfl ?_); at_builtin; refine Kd.R_append (Kd.int .i64) (w0 := w) w.heap.size rfl (.tmp 26) (.tmp 28) 25 3 (.int .i64 0) 8 rfl Try.underlying25 info3 rfl (by decide) (by omega) u2 x2_1 t237 [.int .i64 t237] (fun _ => True) (fun _ => False) rfl rfl ?aP (fun _ hk => hk.elim) ?aF ?aO ?aB ?aS ?aL ?_; (case aP => exact rfl); (case aB => exact (bq1_ HB.out GE236.out)); (case aF => exact (fun _ _ => trivial)); (case aO => exact (mvR_ HO_2.out)); (case aS => exact (below_size (bq1_ HB.out GE236.out))); (case aL => have := LMc11.out; omega); intro v240 w15 ho hb hg hat; rw [← Ny239.out] at ho; have HO241 := Aside0.mk (ho); replace BK236 := Aside0.mk (blk_grown (g := gb236) (o := .cells #[.int .i64 ((rd_T35 l0 x12_1).f0), .slice A235_1 ((rd_T35 l0 x12_1).f1).length c235_1, .slice A235_2 ((rd_T35 l0 x12_1).f2).length c235_2] 35 (0, 0)) (mvK_ BK236.out) hg (Kd.R_ne HO_2.out BK236.out (by decide))); replace HB := Aside0.mk (hb); clear HO_2 ho hb hg hat))
          go_roundg k1
          case measure => have := HK1.out; omega
          case rel => exact ⟨(y239), (wrap64 (x12_1 + 1)), (by first | rfl | (simp; done) | (simp [*]; done)), H', ⟨by have := HK1.out; omega⟩, ⟨mvR_ HO241.out⟩, ⟨bq1_ HB.out GE236.out⟩⟩
         ·rw [if_neg c11] at H
          exact absurd H (by simp)
        ·rw [if_neg c10] at H
         have c10b0 : decide (0 ≤ t237) = false := decide_eq_false c10
         clear c10
         have H' := Aside0.mk H
         clear H
         have p235 : 0 ≤ (x12_1 : Int) := od_
         have q235 : x12_1 < (l0.length : Int) := od_
         obtain ⟨ad235, A235_1, c235_1, A235_2, c235_2, e235, hx235_0, hx235_1, hx235_2, hl235_1, hi235_1, hl235_2, hi235_2⟩ := at_T35 HR0.out x12_1 p235 q235
         cases e235
         replace hx235_0 := (HB.out.cell (World.block_lt_of_cell? w _ hx235_0)).trans hx235_0
         replace hx235_1 := (HB.out.cell (World.block_lt_of_cell? w _ hx235_1)).trans hx235_1
         replace hx235_2 := (HB.out.cell (World.block_lt_of_cell? w _ hx235_2)).trans hx235_2
         have HR235_1 := Aside0.mk hi235_1
         have HC235_1 := Aside0.mk hl235_1
         clear hi235_1 hl235_1
         have HR235_2 := Aside0.mk hi235_2
         have HC235_2 := Aside0.mk hl235_2
         clear hi235_2 hl235_2
         replace p235 := eq_true p235
         replace q235 := eq_true q235
         go_wp2_with (first | ((with_reducible refine gate_dst (N := 4) rfl ?_); refine box_event ?hg (N := 4) ?hd (cs := #[.int .i64 0, .slice none 0 0, .slice none 0 0]) (t := 35) ?hr ?_; (case hd => rfl); (case hg => rfl); (case hr => first | (go_simp; done) | (go_simp; rfl)); intro gb236 hg w16 hbox hb; have BK236 := Aside0.mk (hbox); have GW236 := Aside0.mk ((by rw [hg]; exact (below_size (bq0_ HB.out)) : w.heap.size ≤ gb236)); have GE236 := Aside0.mk ((by rw [hg]; exact (below_size (bq0_ HB.out)) : w.heap.size ≤ gb236)); replace HO_2 := Aside0.mk (Kd.R_below (mvR_ HO_2.out) hb); replace HB := Aside0.mk (below_step (bq0_ HB.out) hb); clear hb hbox hg; have hcz17_0 : w16.cell? ⟨gb236, 0, none⟩ = some (.int .i64 0) := (blk_cell BK236.out 0).trans rfl; have hcz17_1 : w16.cell? ⟨gb236, 1, none⟩ = some (.slice none 0 0) := (blk_cell BK236.out 1).trans rfl; have hcz17_2 : w16.cell? ⟨gb236, 2, none⟩ = some (.slice none 0 0) := (blk_cell BK236.out 2).trans rfl; have hfz17_0 := blk_frozen BK236.out 0; have hfz17_1 := blk_frozen BK236.out 1; have hfz17_2 := blk_frozen BK236.out 2) | ((with_reducible refine gate_callee (f := 32) rfl ?_); refine gL_ (some 18) Try.func32 #[.agg #[.int .i64 ((rd_T35 l0 x12_1).f0), .slice A235_1 ((rd_T35 l0 x12_1).f1).length c235_1, .slice A235_2 ((rd_T35 l0 x12_1).f2).length c235_2]] ?_; (with_reducible refine (graph_name.calls ((rd_T35 l0 x12_1).f0) _ _ ((rd_T35 l0 x12_1).f1) _ _ ((rd_T35 l0 x12_1).f2) t237 true _ ?side1 ?side2 ?side3 ?side4 A8.out).mono ?_); (case side1 => exact Kd.C_below HR235_1.out (bq1_ HB.out GE236.out)); (case side2 => exact HC235_1.out); (case side3 => exact Kd.C_below HR235_2.out (bq1_ HB.out GE236.out)); (case side4 => exact HC235_2.out); rintro e w18 ⟨rfl, hb⟩; refine ⟨_, rfl, ?_⟩; replace HO_2 := Aside0.mk (Kd.R_below (by (with_reducible repeat (first | apply Kd.R_alloc | apply Kd.R_drewN | apply Kd.R_drew)); exact (Kd.R_mono (Kd.R_far (p := ⟨gb236, 2, none⟩) (Kd.R_far (p := ⟨gb236, 1, none⟩) (Kd.R_far (p := ⟨gb236, 0, none⟩) (Kd.R_types HO_2.out BK236.out (by decide)) (fun _ hk => hk.2) (.int .i64 ((rd_T35 l0 x12_1).f0))) (fun _ hk => hk.2) (.slice A235_1 ((rd_T35 l0 x12_1).f1).length c235_1)) (fun _ hk => hk.2) (.slice A235_2 ((rd_T35 l0 x12_1).f2).length c235_2)) (fun _ h_ => h_.1))) hb); replace BK236 := Aside0.mk (blk_below (g := gb236) (o := .cells #[.int .i64 ((rd_T35 l0 x12_1).f0), .slice A235_1 ((rd_T35 l0 x12_1).f1).length c235_1, .slice A235_2 ((rd_T35 l0 x12_1).f2).length c235_2] 35 (0, 0)) (by (with_reducible repeat (first | refine blk_drewN ?_ _ | refine blk_drew ?_ | refine blk_alloc ?_ _)); refine blk_put (cs := #[.int .i64 ((rd_T35 l0 x12_1).f0), .slice A235_1 ((rd_T35 l0 x12_1).f1).length c235_1, .slice none 0 0]) ?_ 2 _ rfl; (with_reducible repeat (first | refine blk_drewN ?_ _ | refine blk_drew ?_ | refine blk_alloc ?_ _)); refine blk_put (cs := #[.int .i64 ((rd_T35 l0 x12_1).f0), .slice none 0 0, .slice none 0 0]) ?_ 1 _ rfl; (with_reducible repeat (first | refine blk_drewN ?_ _ | refine blk_drew ?_ | refine blk_alloc ?_ _)); refine blk_put (cs := #[.int .i64 0, .slice none 0 0, .slice none 0 0]) ?_ 0 _ rfl; (with_reducible repeat (first | refine blk_drewN ?_ _ | refine blk_drew ?_ | refine blk_alloc ?_ _)); exact BK236.out) hb); replace HB := Aside0.mk (below_step (bq1_ HB.out GE236.out) hb); (try clear hb)))
         go_roundg k1
         case measure => have := HK1.out; omega
         case rel => exact ⟨(x2_1), (wrap64 (x12_1 + 1)), (by first | rfl | (simp; done) | (simp [*]; done)), H', ⟨by have := HK1.out; omega⟩, ⟨mvR_ HO_2.out⟩, ⟨bq1_ HB.out GE236.out⟩⟩
       ·replace c9 := Bool.eq_false_iff.mpr c9
        subst c9
        have H1 : (graph_Params.l0 k1 x2_1 l0 (l0.length : Int) (wrap64 (x12_1 + 1))) = some r := by rw [if_neg (show ¬ (false = true) by decide)] at H; exact H
        clear H
        have H := H1
        clear H1
        have H' := Aside0.mk H
        clear H
        have p235 : 0 ≤ (x12_1 : Int) := od_
        have q235 : x12_1 < (l0.length : Int) := od_
        obtain ⟨ad235, A235_1, c235_1, A235_2, c235_2, e235, hx235_0, hx235_1, hx235_2, hl235_1, hi235_1, hl235_2, hi235_2⟩ := at_T35 HR0.out x12_1 p235 q235
        cases e235
        replace hx235_0 := (HB.out.cell (World.block_lt_of_cell? w _ hx235_0)).trans hx235_0
        replace hx235_1 := (HB.out.cell (World.block_lt_of_cell? w _ hx235_1)).trans hx235_1
        replace hx235_2 := (HB.out.cell (World.block_lt_of_cell? w _ hx235_2)).trans hx235_2
        have HR235_1 := Aside0.mk hi235_1
        have HC235_1 := Aside0.mk hl235_1
        clear hi235_1 hl235_1
        have HR235_2 := Aside0.mk hi235_2
        have HC235_2 := Aside0.mk hl235_2
        clear hi235_2 hl235_2
        replace p235 := eq_true p235
        replace q235 := eq_true q235
        go_wp2_with (first | ((with_reducible refine gate_dst (N := 4) rfl ?_); refine box_event ?hg (N := 4) ?hd (cs := #[.int .i64 0, .slice none 0 0, .slice none 0 0]) (t := 35) ?hr ?_; (case hd => rfl); (case hg => rfl); (case hr => first | (go_simp; done) | (go_simp; rfl)); intro gb236 hg w19 hbox hb; have BK236 := Aside0.mk (hbox); have GW236 := Aside0.mk ((by rw [hg]; exact (below_size (bq0_ HB.out)) : w.heap.size ≤ gb236)); have GE236 := Aside0.mk ((by rw [hg]; exact (below_size (bq0_ HB.out)) : w.heap.size ≤ gb236)); replace HO_2 := Aside0.mk (Kd.R_below (mvR_ HO_2.out) hb); replace HB := Aside0.mk (below_step (bq0_ HB.out) hb); clear hb hbox hg; have hcz20_0 : w19.cell? ⟨gb236, 0, none⟩ = some (.int .i64 0) := (blk_cell BK236.out 0).trans rfl; have hcz20_1 : w19.cell? ⟨gb236, 1, none⟩ = some (.slice none 0 0) := (blk_cell BK236.out 1).trans rfl; have hcz20_2 : w19.cell? ⟨gb236, 2, none⟩ = some (.slice none 0 0) := (blk_cell BK236.out 2).trans rfl; have hfz20_0 := blk_frozen BK236.out 0; have hfz20_1 := blk_frozen BK236.out 1; have hfz20_2 := blk_frozen BK236.out 2) | ((with_reducible refine gate_callee (f := 32) rfl ?_); refine gL_ (some 18) Try.func32 #[.agg #[.int .i64 ((rd_T35 l0 x12_1).f0), .slice A235_1 ((rd_T35 l0 x12_1).f1).length c235_1, .slice A235_2 ((rd_T35 l0 x12_1).f2).length c235_2]] ?_; (with_reducible refine (graph_name.calls ((rd_T35 l0 x12_1).f0) _ _ ((rd_T35 l0 x12_1).f1) _ _ ((rd_T35 l0 x12_1).f2) t237 false _ ?side1 ?side2 ?side3 ?side4 A8.out).mono ?_); (case side1 => exact Kd.C_below HR235_1.out (bq1_ HB.out GE236.out)); (case side2 => exact HC235_1.out); (case side3 => exact Kd.C_below HR235_2.out (bq1_ HB.out GE236.out)); (case side4 => exact HC235_2.out); rintro e w21 ⟨rfl, hb⟩; refine ⟨_, rfl, ?_⟩; replace HO_2 := Aside0.mk (Kd.R_below (by (with_reducible repeat (first | apply Kd.R_alloc | apply Kd.R_drewN | apply Kd.R_drew)); exact (Kd.R_mono (Kd.R_far (p := ⟨gb236, 2, none⟩) (Kd.R_far (p := ⟨gb236, 1, none⟩) (Kd.R_far (p := ⟨gb236, 0, none⟩) (Kd.R_types HO_2.out BK236.out (by decide)) (fun _ hk => hk.2) (.int .i64 ((rd_T35 l0 x12_1).f0))) (fun _ hk => hk.2) (.slice A235_1 ((rd_T35 l0 x12_1).f1).length c235_1)) (fun _ hk => hk.2) (.slice A235_2 ((rd_T35 l0 x12_1).f2).length c235_2)) (fun _ h_ => h_.1))) hb); replace BK236 := Aside0.mk (blk_below (g := gb236) (o := .cells #[.int .i64 ((rd_T35 l0 x12_1).f0), .slice A235_1 ((rd_T35 l0 x12_1).f1).length c235_1, .slice A235_2 ((rd_T35 l0 x12_1).f2).length c235_2] 35 (0, 0)) (by (with_reducible repeat (first | refine blk_drewN ?_ _ | refine blk_drew ?_ | refine blk_alloc ?_ _)); refine blk_put (cs := #[.int .i64 ((rd_T35 l0 x12_1).f0), .slice A235_1 ((rd_T35 l0 x12_1).f1).length c235_1, .slice none 0 0]) ?_ 2 _ rfl; (with_reducible repeat (first | refine blk_drewN ?_ _ | refine blk_drew ?_ | refine blk_alloc ?_ _)); refine blk_put (cs := #[.int .i64 ((rd_T35 l0 x12_1).f0), .slice none 0 0, .slice none 0 0]) ?_ 1 _ rfl; (with_reducible repeat (first | refine blk_drewN ?_ _ | refine blk_drew ?_ | refine blk_alloc ?_ _)); refine blk_put (cs := #[.int .i64 0, .slice none 0 0, .slice none 0 0]) ?_ 0 _ rfl; (with_reducible repeat (first | refine blk_drewN ?_ _ | refine blk_drew ?_ | refine blk_alloc ?_ _)); exact BK236.out) hb); replace HB := Aside0.mk (below_step (bq1_ HB.out GE236.out) hb); (try clear hb)))
        go_roundg k1
        case measure => have := HK1.out; omega
        case rel => exact ⟨(x2_1), (wrap64 (x12_1 + 1)), (by first | rfl | (simp; done) | (simp [*]; done)), H', ⟨by have := HK1.out; omega⟩, ⟨mvR_ HO_2.out⟩, ⟨bq1_ HB.out GE236.out⟩⟩
      ·rw [if_neg c7] at H
       exact absurd H (by simp)
     ·rw [if_neg c6] at H
      exact absurd H (by simp)
    ·rw [if_neg c5] at H
     have c5b0 : decide (x12_1 < (l0.length : Int)) = false := decide_eq_false c5
     clear c5
     replace H := Option.bind_eq_some_iff.mp H
     obtain ⟨t242, A220, H⟩ := H
     replace H : ((slices_Compact_int_int.f t242).bind fun t243 => (some t243)) = some r := H
     have A22 := Aside0.mk A220
     clear A220
     replace H := Option.bind_eq_some_iff.mp H
     obtain ⟨t243, A230, H⟩ := H
     replace H : (some t243) = some r := H
     have A23 := Aside0.mk A230
     clear A230
     obtain rfl := Option.some.inj H
     obtain ⟨Ao24, co24, eo24⟩ := Kd.R_slice HO_2.out
     subst eo24
     go_wp2_with (first | ((with_reducible refine gate_callee (f := 36) rfl ?_); refine gL_ (some 32) Try.func36 #[.slice Ao24 x2_1.length co24] ?_; (with_reducible refine (slices_Sort_int_int.calls (fun k_ => some k_ = (.slice Ao24 x2_1.length co24 : Value).ownBlock) (.slice Ao24 x2_1.length co24) x2_1 t242 w _ ?side1 ?side2 A22.out).mono ?_); (case side1 => repeat (first | (with_reducible first | exact HB.out | apply below_alloc | apply pw_below_drewN | apply below_drew1) | exact HB.out)); (case side2 => exact Kd.R_tight rfl HO_2.out); rintro e w25 ⟨rfl, hy0, hb, hkp⟩; refine ⟨_, rfl, ?_⟩; replace HO_2 := Aside0.mk (Kd.R_reok rfl hy0 (fun k_ e_ => HO_2.out.1 k_ e_)); replace HB := Aside0.mk (hb); (try clear hb); (try clear hkp); (try clear hy0)) | ((with_reducible refine gate_callee (f := 37) rfl ?_); refine gL_ (some 34) Try.func37 #[.slice Ao24 x2_1.length co24] ?_; (with_reducible refine (slices_Compact_int_int.calls (fun k_ => some k_ = (.slice Ao24 x2_1.length co24 : Value).ownBlock) (.slice Ao24 x2_1.length co24) t242 t243 w _ ?side1 ?side2 A23.out).mono ?_); (case side1 => repeat (first | (with_reducible first | exact HB.out | apply below_alloc | apply pw_below_drewN | apply below_drew1) | exact HB.out)); (case side2 => exact Kd.R_tight rfl HO_2.out); rintro e w26 ⟨v244, rfl, ho0, hb, hkp⟩; refine ⟨_, rfl, ?_⟩; have HO245 := Aside0.mk (Kd.R_mono (ok' := fun k_ => True) ho0 (fun k_ hk_ => trivial)); replace HB := Aside0.mk (hb); clear HO_2; (try clear hb); (try clear hkp); (try clear ho0)))
     go_ret
     exact ⟨_, by first | rfl | (simp <;> rfl) | (simp [*] <;> rfl), mvR_ HO245.out, bq0_ HB.out⟩
 ·replace c3 := Bool.eq_false_iff.mpr c3
  subst c3
  have H1 : (some ([] : List Int)) = some r := by rw [if_neg (show ¬ (false = true) by decide)] at H; exact H
  clear H
  have H := H1
  clear H1
  obtain rfl := Option.some.inj H
  go_enter Try.func18, Try.ntmps18
  go_wp2_with (first | ((with_reducible refine gate_callee (f := 13) rfl ?_); refine gL_ (some 8) Try.func13 #[.slice A0 l0.length c0] ?_; (with_reducible refine (graph_Check.calls _ _ l0 false _ ?side1 ?side2 A2.out).mono ?_); (case side1 => exact mvC_ (HR0.out)); (case side2 => exact HC0.out); rintro e w27 ⟨rfl, hb⟩; refine ⟨_, rfl, ?_⟩; replace HB := Aside0.mk (below_step (bq0_ HB.out) hb); (try clear hb)))
  go_ret
  exact ⟨_, by first | rfl | (simp <;> rfl) | (simp [*] <;> rfl), by first | exact Kd.R_nil _ _ _ _ _ | exact Kd.N_nil _ _ _ _ _ | exact Kd.V_nil _ _ _ _ _ | exact Kd.Q_nil _ _ _ _ _ | exact Kd.S_nil _ _ _ _ _, bq0_ HB.out⟩

/-! ### graph_Uses: function 20 -/
mutual
def graph_Uses.l0 : Nat → Int → List Int → List (S35) → Int → Int → Option (List Int)
 | 0, _, _, _, _, _ => none
 | k + 1, x1, x4, x12, x13, x14 => if x14 < x13 then (if 0 ≤ x14 then (if x14 < (x12.length : Int) then (graph_Uses.l1 k x1 x4 x14 x12 x13 x14 ((rd_T35 x12 x14).f1) (((rd_T35 x12 x14).f1).length : Int) 0) else (none)) else (none)) else (some x4)
def graph_Uses.l1 : Nat → Int → List Int → Int → List (S35) → Int → Int → List Int → Int → Int → Option (List Int)
 | 0, _, _, _, _, _, _, _, _, _ => none
 | k + 1, x1, x4, x5, x12, x13, x14, x20, x21, x22 => if x22 < x21 then (if 0 ≤ x22 then (if x22 < (x20.length : Int) then (if (rd x20 x22) = x1 then (if x4.length < 17592186044416 then (graph_Uses.l1 k x1 (x4 ++ [x5]) x5 x12 x13 x14 x20 x21 (wrap64 (x22 + 1))) else (none)) else (graph_Uses.l1 k x1 x4 x5 x12 x13 x14 x20 x21 (wrap64 (x22 + 1)))) else (none)) else (none)) else (graph_Uses.l0 k x1 x4 x12 x13 (wrap64 (x14 + 1)))
end
def graph_Uses.f (k : Nat) (l0 : List (S35)) (a1 : Int) : Option (List Int) := (graph_Check.f l0).bind fun t246 => (if t246 = true then (graph_Uses.l0 k a1 ([] : List Int) l0 (l0.length : Int) 0) else (some ([] : List Int)))
theorem graph_Uses.mono_l : ∀ k, (∀ y0 y1 y2 y3 y4, LeO (graph_Uses.l0 k y0 y1 y2 y3 y4) (graph_Uses.l0 (k + 1) y0 y1 y2 y3 y4)) ∧ (∀ y0 y1 y2 y3 y4 y5 y6 y7 y8, LeO (graph_Uses.l1 k y0 y1 y2 y3 y4 y5 y6 y7 y8) (graph_Uses.l1 (k + 1) y0 y1 y2 y3 y4 y5 y6 y7 y8))
 | 0 => ⟨fun _ _ _ _ _ r h => by simp [graph_Uses.l0] at h, fun _ _ _ _ _ _ _ _ _ r h => by simp [graph_Uses.l1] at h⟩
 | k + 1 => by
  obtain ⟨ih0, ih1⟩ := graph_Uses.mono_l k
  refine ⟨?_, ?_⟩
  ·intro y0 y1 y2 y3 y4
   unfold graph_Uses.l0
   repeat' first
   | (with_reducible exact ih0 _ _ _ _ _)
   | (with_reducible exact ih1 _ _ _ _ _ _ _ _ _)
   | (with_reducible exact LeO.refl _)
   | (with_reducible exact LeO.none _)
   | (with_reducible refine LeO.ite ?_ ?_)
   | (with_reducible refine LeO.bind ?_ (fun _ => ?_))
   | exact ih0 _ _ _ _ _
   | exact ih1 _ _ _ _ _ _ _ _ _
   | exact LeO.none _
   | refine LeO.ite ?_ ?_
   | refine LeO.bind ?_ (fun _ => ?_)
  ·intro y0 y1 y2 y3 y4 y5 y6 y7 y8
   unfold graph_Uses.l1
   repeat' first
   | (with_reducible exact ih0 _ _ _ _ _)
   | (with_reducible exact ih1 _ _ _ _ _ _ _ _ _)
   | (with_reducible exact LeO.refl _)
   | (with_reducible exact LeO.none _)
   | (with_reducible refine LeO.ite ?_ ?_)
   | (with_reducible refine LeO.bind ?_ (fun _ => ?_))
   | exact ih0 _ _ _ _ _
   | exact ih1 _ _ _ _ _ _ _ _ _
   | exact LeO.none _
   | refine LeO.ite ?_ ?_
   | refine LeO.bind ?_ (fun _ => ?_)
theorem graph_Uses.mono : ∀ a0 a1 k, LeO (graph_Uses.f k a0 a1) (graph_Uses.f (k + 1) a0 a1) := by
 intro a0 a1 k
 obtain ⟨ih0, ih1⟩ := graph_Uses.mono_l k
 unfold graph_Uses.f
 repeat' first
   | (with_reducible exact ih0 _ _ _ _ _)
   | (with_reducible exact ih1 _ _ _ _ _ _ _ _ _)
   | (with_reducible exact LeO.refl _)
   | (with_reducible exact LeO.none _)
   | (with_reducible refine LeO.ite ?_ ?_)
   | (with_reducible refine LeO.bind ?_ (fun _ => ?_))
   | exact ih0 _ _ _ _ _
   | exact ih1 _ _ _ _ _ _ _ _ _
   | exact LeO.none _
   | refine LeO.ite ?_ ?_
   | refine LeO.bind ?_ (fun _ => ?_)
set_option maxHeartbeats 8000000 in
set_option maxRecDepth 100000 in
theorem graph_Uses.calls (k : Nat) (A0 : Option Addr) (c0 : Nat) (l0 : List (S35)) (a1 : Int) (r : List Int) (w : World) (hr0 : Kd.C k35 w A0 l0.length l0) (hc0 : l0.length ≤ c0) (h : graph_Uses.f k l0 a1 = some r) :
  Calls Try.prog 20 #[.slice A0 l0.length c0, .int .i64 a1] w fun e w' => ∃ v0_ : Value, e = .returned (v0_) ∧ Kd.R (Kd.int .i64) 3 w' w.heap.size (fun _ => True) v0_ r ∧ Below w.heap.size w w' := by
 have hu35 := Try.underlying35
 have HR0 := Aside0.mk hr0
 have HC0 := Aside0.mk hc0
 clear hr0 hc0
 have HB := Aside0.mk (Below.refl w.heap.size w)
 have H : ((graph_Check.f l0).bind fun t246 => (if t246 = true then (graph_Uses.l0 k a1 ([] : List Int) l0 (l0.length : Int) 0) else (some ([] : List Int)))) = some r := h
 clear h
 replace H := Option.bind_eq_some_iff.mp H
 obtain ⟨t246, A30, H⟩ := H
 replace H : (if t246 = true then (graph_Uses.l0 k a1 ([] : List Int) l0 (l0.length : Int) 0) else (some ([] : List Int))) = some r := H
 have A3 := Aside0.mk A30
 clear A30
 by_cases c4 : t246 = true
 ·subst c4
  have H1 : (graph_Uses.l0 k a1 ([] : List Int) l0 (l0.length : Int) 0) = some r := by rw [if_pos rfl] at H; exact H
  clear H
  have H := H1
  clear H1
  have H' := Aside0.mk H
  clear H
  go_enter Try.func20, Try.ntmps20
  go_wp2_with (first | ((with_reducible refine gate_callee (f := 13) rfl ?_); refine gL_ (some 10) Try.func13 #[.slice A0 l0.length c0] ?_; (with_reducible refine (graph_Check.calls _ _ l0 true _ ?side1 ?side2 A3.out).mono ?_); (case side1 => exact mvC_ (HR0.out)); (case side2 => exact HC0.out); rintro e w5 ⟨rfl, hb⟩; refine ⟨_, rfl, ?_⟩; replace HB := Aside0.mk (below_step (bq0_ HB.out) hb); (try clear hb)))
  go_loopg [4, 14] k (fun kq v4 v14 w' => ∃ (x4_1 : List Int) (x14_1 : Int), v14 = .int .i64 x14_1 ∧ Aside0 (graph_Uses.l0 kq a1 x4_1 l0 (l0.length : Int) x14_1 = some r) ∧ Aside0 (kq ≤ k) ∧ Aside0 (Kd.R (Kd.int .i64) 3 w' w.heap.size (fun _ => True) v4 x4_1) ∧ Aside0 (Below w.heap.size w w'))
  case atStart => exact ⟨(([] : List Int)), (0), (by first | rfl | (simp; done) | (simp [*]; done)), H', ⟨Nat.le_refl _⟩, ⟨by first | exact Kd.R_nil _ _ _ _ _ | exact Kd.N_nil _ _ _ _ _ | exact Kd.V_nil _ _ _ _ _ | exact Kd.Q_nil _ _ _ _ _ | exact Kd.S_nil _ _ _ _ _⟩, ⟨bq0_ HB.out⟩⟩
  case round =>
   clear H'
   try clear c1
   try clear c2
   try clear p2
   try clear c4
   obtain ⟨x4_1, x14_1, rfl, HA, HK1, HO_4, HB⟩ := hrel
   cases gk with
   | zero => exact absurd HA.out (by simp [graph_Uses.l0])
   | succ k1 =>
    have H := HA.out
    clear HA
    simp only [graph_Uses.l0] at H
    by_cases c6 : x14_1 < (l0.length : Int)
    ·rw [if_pos c6] at H
     have c6b0 : decide (x14_1 < (l0.length : Int)) = true := decide_eq_true c6
     clear c6
     by_cases c7 : 0 ≤ x14_1
     ·rw [if_pos c7] at H
      have c7b0 : decide (0 ≤ x14_1) = true := decide_eq_true c7
      clear c7
      by_cases c8 : x14_1 < (l0.length : Int)
      ·rw [if_pos c8] at H
       have c8b0 : decide (x14_1 < (l0.length : Int)) = true := decide_eq_true c8
       clear c8
       have H' := Aside0.mk H
       clear H
       have p247 : 0 ≤ (x14_1 : Int) := od_
       have q247 : x14_1 < (l0.length : Int) := od_
       obtain ⟨ad247, A247_1, c247_1, A247_2, c247_2, e247, hx247_0, hx247_1, hx247_2, hl247_1, hi247_1, hl247_2, hi247_2⟩ := at_T35 HR0.out x14_1 p247 q247
       cases e247
       replace hx247_0 := (HB.out.cell (World.block_lt_of_cell? w _ hx247_0)).trans hx247_0
       replace hx247_1 := (HB.out.cell (World.block_lt_of_cell? w _ hx247_1)).trans hx247_1
       replace hx247_2 := (HB.out.cell (World.block_lt_of_cell? w _ hx247_2)).trans hx247_2
       have HR247_1 := Aside0.mk hi247_1
       have HC247_1 := Aside0.mk hl247_1
       clear hi247_1 hl247_1
       have HR247_2 := Aside0.mk hi247_2
       have HC247_2 := Aside0.mk hl247_2
       clear hi247_2 hl247_2
       replace p247 := eq_true p247
       replace q247 := eq_true q247
       go_wp2_with (first | ((with_reducible refine gate_dst (N := 6) rfl ?_); refine box_event ?hg (N := 6) ?hd (cs := #[.int .i64 0, .slice none 0 0, .slice none 0 0]) (t := 35) ?hr ?_; (case hd => rfl); (case hg => rfl); (case hr => first | (go_simp; done) | (go_simp; rfl)); intro gb248 hg w9 hbox hb; have BK248 := Aside0.mk (hbox); have GW248 := Aside0.mk ((by rw [hg]; exact (below_size (bq0_ HB.out)) : w.heap.size ≤ gb248)); have GE248 := Aside0.mk ((by rw [hg]; exact (below_size (bq0_ HB.out)) : w.heap.size ≤ gb248)); replace HO_4 := Aside0.mk (Kd.R_below (mvR_ HO_4.out) hb); replace HB := Aside0.mk (below_step (bq0_ HB.out) hb); clear hb hbox hg; have hcz10_0 : w9.cell? ⟨gb248, 0, none⟩ = some (.int .i64 0) := (blk_cell BK248.out 0).trans rfl; have hcz10_1 : w9.cell? ⟨gb248, 1, none⟩ = some (.slice none 0 0) := (blk_cell BK248.out 1).trans rfl; have hcz10_2 : w9.cell? ⟨gb248, 2, none⟩ = some (.slice none 0 0) := (blk_cell BK248.out 2).trans rfl; have hfz10_0 := blk_frozen BK248.out 0; have hfz10_1 := blk_frozen BK248.out 1; have hfz10_2 := blk_frozen BK248.out 2))
       go_loopg [4, 22] k1 (fun kq v4 v22 w' => ∃ (x4_2 : List Int) (x22_2 : Int), v22 = .int .i64 x22_2 ∧ Aside0 (graph_Uses.l1 kq a1 x4_2 x14_1 l0 (l0.length : Int) x14_1 ((rd_T35 l0 x14_1).f1) (((rd_T35 l0 x14_1).f1).length : Int) x22_2 = some r) ∧ Aside0 (kq ≤ k1) ∧ Aside0 (Kd.R (Kd.int .i64) 3 w' w.heap.size (fun _ => True) v4 x4_2) ∧ Aside0 (w'.heap[gb248]? = some (.cells #[.int .i64 ((rd_T35 l0 x14_1).f0), (.slice A247_1 ((rd_T35 l0 x14_1).f1).length c247_1), (.slice A247_2 ((rd_T35 l0 x14_1).f2).length c247_2)] 35 (0, 0))) ∧ Aside0 (Below w.heap.size w w'))
       case atStart => exact ⟨(x4_1), (0), (by first | rfl | (simp; done) | (simp [*]; done)), H', ⟨Nat.le_refl _⟩, ⟨by (with_reducible repeat (first | apply Kd.R_alloc | apply Kd.R_drewN | apply Kd.R_drew)); exact Kd.R_mono (Kd.R_far (p := ⟨gb248, 2, none⟩) (Kd.R_far (p := ⟨gb248, 1, none⟩) (Kd.R_far (p := ⟨gb248, 0, none⟩) (Kd.R_types HO_4.out BK248.out (by decide)) (fun _ hk => hk.2) (.int .i64 ((rd_T35 l0 x14_1).f0))) (fun _ hk => hk.2) (.slice A247_1 ((rd_T35 l0 x14_1).f1).length c247_1)) (fun _ hk => hk.2) (.slice A247_2 ((rd_T35 l0 x14_1).f2).length c247_2)) (fun _ hk => trivial)⟩, ⟨by (with_reducible repeat (first | refine blk_drewN ?_ _ | refine blk_drew ?_ | refine blk_alloc ?_ _)); refine blk_put (cs := #[.int .i64 ((rd_T35 l0 x14_1).f0), .slice A247_1 ((rd_T35 l0 x14_1).f1).length c247_1, .slice none 0 0]) ?_ 2 _ rfl; (with_reducible repeat (first | refine blk_drewN ?_ _ | refine blk_drew ?_ | refine blk_alloc ?_ _)); refine blk_put (cs := #[.int .i64 ((rd_T35 l0 x14_1).f0), .slice none 0 0, .slice none 0 0]) ?_ 1 _ rfl; (with_reducible repeat (first | refine blk_drewN ?_ _ | refine blk_drew ?_ | refine blk_alloc ?_ _)); refine blk_put (cs := #[.int .i64 0, .slice none 0 0, .slice none 0 0]) ?_ 0 _ rfl; (with_reducible repeat (first | refine blk_drewN ?_ _ | refine blk_drew ?_ | refine blk_alloc ?_ _)); exact BK248.out⟩, ⟨bq1_ HB.out GE248.out⟩⟩
       case round =>
        clear H'
        try clear c1
        try clear c2
        try clear p2
        try clear q2
        try clear hx2
        try clear c4
        try clear c6
        try clear c6b0
        try clear c7
        try clear c7b0
        try clear c8
        try clear c8b0
        try clear hcz10_0
        try clear hcz10_1
        try clear hcz10_2
        try clear hfz10_0
        try clear hfz10_1
        try clear hfz10_2
        try clear hx247_0
        try clear hx247_1
        try clear hx247_2
        try clear p2
        try clear p247
        try clear q247
        obtain ⟨x4_2, x22_2, rfl, HA, HK2, HO_4, BK248, HB⟩ := hrel
        cases gk with
        | zero => exact absurd HA.out (by simp [graph_Uses.l1])
        | succ k2 =>
         have H := HA.out
         clear HA
         simp only [graph_Uses.l1] at H
         by_cases c11 : x22_2 < (((rd_T35 l0 x14_1).f1).length : Int)
         ·rw [if_pos c11] at H
          have c11b0 : decide (x22_2 < (((rd_T35 l0 x14_1).f1).length : Int)) = true := decide_eq_true c11
          clear c11
          by_cases c12 : 0 ≤ x22_2
          ·rw [if_pos c12] at H
           have c12b0 : decide (0 ≤ x22_2) = true := decide_eq_true c12
           clear c12
           by_cases c13 : x22_2 < (((rd_T35 l0 x14_1).f1).length : Int)
           ·rw [if_pos c13] at H
            have c13b0 : decide (x22_2 < (((rd_T35 l0 x14_1).f1).length : Int)) = true := decide_eq_true c13
            clear c13
            by_cases c14 : (rd ((rd_T35 l0 x14_1).f1) x22_2) = a1
            ·rw [if_pos c14] at H
             obtain ⟨c14b0, c14b1⟩ := eqT_ c14
             clear c14
             by_cases c15 : x4_2.length < 17592186044416
             ·rw [if_pos c15] at H
              have LMc15 := Aside0.mk c15
              clear c15
              obtain ⟨y250, hy250⟩ : ∃ y_ : List Int, y_ = (x4_2 ++ [x14_1]) := ⟨_, rfl⟩
              replace H : (graph_Uses.l1 k2 a1 y250 x14_1 l0 (l0.length : Int) x14_1 ((rd_T35 l0 x14_1).f1) (((rd_T35 l0 x14_1).f1).length : Int) (wrap64 (x22_2 + 1))) = some r := by first | (rw [hy250]; with_reducible exact H) | (have H2_ := (Option.bind_some _ _).symm.trans H; rw [hy250]; with_reducible exact H2_) | (have H2_ := (Option.bind_some _ _).symm.trans H; with_reducible exact H2_) | with_reducible exact H | (rw [hy250]; exact H) | exact H
              have Ny250 := Aside0.mk hy250
              clear hy250
              have H' := Aside0.mk H
              clear H
              have p249 : 0 ≤ (x22_2 : Int) := od_
              have q249 : x22_2 < (((rd_T35 l0 x14_1).f1).length : Int) := od_
              obtain ⟨ad249, e249, hx249_0⟩ := Kd.at_int HR247_1.out x22_2 p249 q249
              cases e249
              replace hx249_0 := (HB.out.cell (World.block_lt_of_cell? w _ hx249_0)).trans hx249_0
              replace p249 := eq_true p249
              replace q249 := eq_true q249
              go_wp2_with (first | ((with_reducible refine gate_builtin (b := .append) (xs := #[.tmp 29, .tmp 31]) rfl ?_); at_builtin; refine Kd.R_append (Kd.int .i64) (w0 := w) w.heap.size rfl (.tmp 29) (.tmp 31) 25 3 (.int .i64 0) 8 rfl Try.underlying25 info3 rfl (by decide) (by omega) u4 x4_2 x14_1 [.int .i64 x14_1] (fun _ => True) (fun _ => False) rfl rfl ?aP (fun _ hk => hk.elim) ?aF ?aO ?aB ?aS ?aL ?_; (case aP => exact rfl); (case aB => exact (bq1_ HB.out GE248.out)); (case aF => exact (fun _ _ => trivial)); (case aO => exact (mvR_ HO_4.out)); (case aS => exact (below_size (bq1_ HB.out GE248.out))); (case aL => have := LMc15.out; omega); intro v251 w16 ho hb hg hat; rw [← Ny250.out] at ho; have HO252 := Aside0.mk (ho); replace BK248 := Aside0.mk (blk_grown (g := gb248) (o := .cells #[.int .i64 ((rd_T35 l0 x14_1).f0), .slice (some ad249) ((rd_T35 l0 x14_1).f1).length c247_1, .slice A247_2 ((rd_T35 l0 x14_1).f2).length c247_2] 35 (0, 0)) (mvK_ BK248.out) hg (Kd.R_ne HO_4.out BK248.out (by decide))); replace HB := Aside0.mk (hb); clear HO_4 ho hb hg hat))
              go_roundg k2
              case measure => have := HK1.out; have := HK2.out; omega
              case rel => exact ⟨(y250), (wrap64 (x22_2 + 1)), (by first | rfl | (simp; done) | (simp [*]; done)), H', ⟨by have := HK1.out; have := HK2.out; omega⟩, ⟨mvR_ HO252.out⟩, ⟨by (with_reducible repeat (first | refine blk_drewN ?_ _ | refine blk_drew ?_ | refine blk_alloc ?_ _)); exact BK248.out⟩, ⟨bq1_ HB.out GE248.out⟩⟩
             ·rw [if_neg c15] at H
              exact absurd H (by simp)
            ·rw [if_neg c14] at H
             have c14b0 : ((rd ((rd_T35 l0 x14_1).f1) x22_2) == a1) = false := beq_eq_false_iff_ne.mpr c14
             have c14b1 : ((rd ((rd_T35 l0 x14_1).f1) x22_2) != a1) = true := bne_iff_ne.mpr c14
             have H' := Aside0.mk H
             clear H
             have p249 : 0 ≤ (x22_2 : Int) := od_
             have q249 : x22_2 < (((rd_T35 l0 x14_1).f1).length : Int) := od_
             obtain ⟨ad249, e249, hx249_0⟩ := Kd.at_int HR247_1.out x22_2 p249 q249
             cases e249
             replace hx249_0 := (HB.out.cell (World.block_lt_of_cell? w _ hx249_0)).trans hx249_0
             replace p249 := eq_true p249
             replace q249 := eq_true q249
             go_wp2
             go_roundg k2
             case measure => have := HK1.out; have := HK2.out; omega
             case rel => exact ⟨(x4_2), (wrap64 (x22_2 + 1)), (by first | rfl | (simp; done) | (simp [*]; done)), H', ⟨by have := HK1.out; have := HK2.out; omega⟩, ⟨mvR_ HO_4.out⟩, ⟨by (with_reducible repeat (first | refine blk_drewN ?_ _ | refine blk_drew ?_ | refine blk_alloc ?_ _)); exact BK248.out⟩, ⟨bq1_ HB.out GE248.out⟩⟩
           ·rw [if_neg c13] at H
            exact absurd H (by simp)
          ·rw [if_neg c12] at H
           exact absurd H (by simp)
         ·rw [if_neg c11] at H
          have c11b0 : decide (x22_2 < (((rd_T35 l0 x14_1).f1).length : Int)) = false := decide_eq_false c11
          clear c11
          have H' := Aside0.mk H
          clear H
          go_wp2
          go_roundg k2
          case measure => have := HK1.out; have := HK2.out; omega
          case rel => exact ⟨(x4_2), (wrap64 (x14_1 + 1)), (by first | rfl | (simp; done) | (simp [*]; done)), H', ⟨by have := HK1.out; have := HK2.out; omega⟩, ⟨mvR_ HO_4.out⟩, ⟨bq1_ HB.out GE248.out⟩⟩
      ·rw [if_neg c8] at H
       exact absurd H (by simp)
     ·rw [if_neg c7] at H
      exact absurd H (by simp)
    ·rw [if_neg c6] at H
     have c6b0 : decide (x14_1 < (l0.length : Int)) = false := decide_eq_false c6
     clear c6
     obtain rfl := Option.some.inj H
     go_wp2
     go_ret
     exact ⟨_, by first | rfl | (simp <;> rfl) | (simp [*] <;> rfl), mvR_ HO_4.out, bq0_ HB.out⟩
 ·replace c4 := Bool.eq_false_iff.mpr c4
  subst c4
  have H1 : (some ([] : List Int)) = some r := by rw [if_neg (show ¬ (false = true) by decide)] at H; exact H
  clear H
  have H := H1
  clear H1
  obtain rfl := Option.some.inj H
  go_enter Try.func20, Try.ntmps20
  go_wp2_with (first | ((with_reducible refine gate_callee (f := 13) rfl ?_); refine gL_ (some 10) Try.func13 #[.slice A0 l0.length c0] ?_; (with_reducible refine (graph_Check.calls _ _ l0 false _ ?side1 ?side2 A3.out).mono ?_); (case side1 => exact mvC_ (HR0.out)); (case side2 => exact HC0.out); rintro e w17 ⟨rfl, hb⟩; refine ⟨_, rfl, ?_⟩; replace HB := Aside0.mk (below_step (bq0_ HB.out) hb); (try clear hb)))
  go_ret
  exact ⟨_, by first | rfl | (simp <;> rfl) | (simp [*] <;> rfl), by first | exact Kd.R_nil _ _ _ _ _ | exact Kd.N_nil _ _ _ _ _ | exact Kd.V_nil _ _ _ _ _ | exact Kd.Q_nil _ _ _ _ _ | exact Kd.S_nil _ _ _ _ _, bq0_ HB.out⟩

end Go.Proofs.Ytklnbfdoklcmfaa.A
