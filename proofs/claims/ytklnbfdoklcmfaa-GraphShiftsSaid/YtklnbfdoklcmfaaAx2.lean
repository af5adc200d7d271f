/- Lean functions that answer as the Go functions do, and the proofs that they do; no conditions. Written by this session's own driver: a scratch copy of the kit's print with the session's additions (wip/xprint). -/
import Derived.Test.YtklnbfdoklcmfaaAx0
import Derived.Test.YtklnbfdoklcmfaaAx1
namespace Go.Proofs.Ytklnbfdoklcmfaa.A
open Go.RowKit Go.Proofs.YtklnbfdoklcmfaaW.PrintWords Go.Proofs.YtklnbfdoklcmfaaW.PrintLast Go.Proofs.YtklnbfdoklcmfaaW.PrintMore
attribute [local go_sem] max2_int min2_int max_two min_two max_three min_three max_four min_four   -- for this text's walks alone
set_option linter.unusedVariables false
set_option linter.unusedSimpArgs false

/-! ### graph_Check: function 13 (given) -/
/-! #### what the callees answer -/
theorem gc_shape0 (l : List Int) (d : Nat) : ∀ (k : Nat) (x : Int) (i : Nat), l.length - i = d → i ≤ l.length → l.length ≤ 3 → d < k → ∃ r, shape_Check.l0 k x l (l.length : Int) (i : Int) = some r := by
 induction d with
 | zero =>
  intro k x i hd hi h3 hk
  obtain ⟨k, rfl⟩ : ∃ q, k = q + 1 := ⟨k - 1, by omega⟩
  rw [shape_Check.l0, if_neg (by omega)]
  split <;> exact ⟨_, rfl⟩
 | succ d ih =>
  intro k x i hd hi h3 hk
  obtain ⟨k, rfl⟩ : ∃ q, k = q + 1 := ⟨k - 1, by omega⟩
  rw [shape_Check.l0, if_pos (by omega), if_pos (by omega), if_pos (by omega)]
  split
  ·exact ⟨_, rfl⟩
  ·split
   ·exact ⟨_, rfl⟩
   ·have e : wrap64 ((i : Int) + 1) = ((i + 1 : Nat) : Int) := by unfold wrap64; omega
    rw [e]
    exact ih k _ (i + 1) (by omega) (by omega) h3 (by omega)
theorem gc_shape (l : List Int) : ∃ r, shape_Check.f 8 l = some r := by
 unfold shape_Check.f
 split
 ·exact ⟨_, rfl⟩
 ·exact gc_shape0 l l.length 8 1 0 (by omega) (by omega) (by omega) (by omega)
theorem gc_shape_len {l : List Int} (h : shape_Check.f 8 l = some true) : l.length ≤ 3 := by
 unfold shape_Check.f at h
 split at h
 ·cases h
 ·omega
def gkind (op : Int) : Option (Int × Int) := (kindL.find? (fun p => decide (op = p.1))).map (·.2)
def wellB (n : S35) (kd : Int × Int) : Bool := (graph_well.f 8 n.f0 n.f1 n.f2 kd.1 kd.2).getD false
theorem well_some (n : S35) (kd : Int × Int) : graph_well.f 8 n.f0 n.f1 n.f2 kd.1 kd.2 = some (wellB n kd) := by
 have : ∃ r, graph_well.f 8 n.f0 n.f1 n.f2 kd.1 kd.2 = some r := by
  unfold graph_well.f
  split
  ·split
   ·exact ⟨_, rfl⟩
   ·rw [if_pos (by omega)]
    split
    ·exact ⟨_, rfl⟩
    ·split
     ·exact ⟨_, rfl⟩
     ·rw [if_pos (by omega)]
      obtain ⟨r, hr⟩ := gc_shape (n.f2.drop 1)
      rw [hr]
      exact ⟨_, rfl⟩
  ·split
   ·obtain ⟨r, hr⟩ := gc_shape n.f2
    rw [hr]
    exact ⟨_, rfl⟩
   ·exact ⟨_, rfl⟩
 obtain ⟨r, hr⟩ := this
 rw [wellB, hr]
 rfl
theorem gkind_mem {op : Int} {kd : Int × Int} (h : gkind op = some kd) : (op, kd) ∈ kindL := by
 unfold gkind at h
 obtain ⟨p, hp, rfl⟩ := Option.map_eq_some_iff.1 h
 have h1 := List.mem_of_find?_eq_some hp
 have h2 := List.find?_some hp
 simp only [decide_eq_true_eq] at h2
 subst h2
 exact h1
theorem kinds_le {op : Int} {kd : Int × Int} (h : gkind op = some kd) : kd.2 ≤ 3 := by
 have : ∀ p ∈ kindL, p.2.2 ≤ 3 := by decide
 exact this _ (gkind_mem h)
theorem well_len {n : S35} {kd : Int × Int} (hk : kd.2 ≤ 3) (h : wellB n kd = true) : n.f2.length ≤ 4 := by
 have hs := well_some n kd
 rw [h] at hs
 unfold graph_well.f at hs
 split at hs
 ·split at hs
  ·cases hs
  ·rw [if_pos (by omega)] at hs
   split at hs
   ·cases hs
   ·split at hs
    ·cases hs
    ·rw [if_pos (by omega)] at hs
     obtain ⟨r, hr⟩ := gc_shape (n.f2.drop 1)
     rw [hr] at hs
     have hs : some r = some true := hs
     cases hs
     have := gc_shape_len hr
     simp at this
     omega
 ·split at hs
  ·obtain ⟨r, hr⟩ := gc_shape n.f2
   rw [hr] at hs
   have hs : some r = some true := hs
   cases hs
   have := gc_shape_len hr
   omega
  ·simp at hs
   omega
theorem gc_eq0 (x y : List Int) (hl : x.length = y.length) (hm : x.length ≤ 10) (d : Nat) : ∀ (k i : Nat), x.length - i = d → i ≤ x.length → d < k →
  slices_Equal_int_int.l0 k x y (x.length : Int) (i : Int) = some (decide (x.drop i = y.drop i)) := by
 induction d with
 | zero =>
  intro k i hd hi hk
  obtain ⟨k, rfl⟩ : ∃ q, k = q + 1 := ⟨k - 1, by omega⟩
  rw [slices_Equal_int_int.l0, if_neg (by omega), List.drop_eq_nil_of_le (by omega), List.drop_eq_nil_of_le (by omega)]
  simp
 | succ d ih =>
  intro k i hd hi hk
  obtain ⟨k, rfl⟩ : ∃ q, k = q + 1 := ⟨k - 1, by omega⟩
  have hx : i < x.length := by omega
  have hy : i < y.length := by omega
  have ex : rd x (i : Int) = x[i] := by simp [rd, hx]
  have ey : rd y (i : Int) = y[i] := by simp [rd, hy]
  rw [slices_Equal_int_int.l0, if_pos (by omega), if_pos (by omega), if_pos (by omega), if_pos (by omega), ex, ey, List.drop_eq_getElem_cons hx, List.drop_eq_getElem_cons hy]
  by_cases c : x[i] = y[i]
  ·have ih' := ih k (i + 1) (by omega) (by omega) (by omega)
   have e : wrap64 ((i : Int) + 1) = ((i + 1 : Nat) : Int) := by unfold wrap64; omega
   rw [if_pos c, e, ih']
   simp only [c, List.cons.injEq, true_and]
  ·rw [if_neg c]
   simp only [List.cons.injEq, c, false_and, decide_false]
theorem gc_eq (x y : List Int) (hm : y.length ≤ 10) : slices_Equal_int_int.f 12 x y = some (decide (x = y)) := by
 unfold slices_Equal_int_int.f
 by_cases h : x.length = y.length
 ·rw [if_pos (by omega)]
  have := gc_eq0 x y h (by omega) x.length 12 0 (by omega) (by omega) (by omega)
  simpa using this
 ·rw [if_neg (by omega)]
  have : x ≠ y := fun e => h (by rw [e])
  simp [this]
/-! #### the function -/
def shGet (k : Int) : List (Int × List Int) → Option (List Int)
 | [] => none
 | p :: r => if k = p.1 then some p.2 else shGet k r
def shPut (k : Int) (v : List Int) : List (Int × List Int) → List (Int × List Int)
 | [] => [(k, v)]
 | p :: r => if k = p.1 then (k, v) :: r else p :: shPut k v r
/-- A shape that must be the one that was told for this name, if there was one. -/
def gseen (at_ : Int) (s : List Int) (sh : List (Int × List Int)) : Option (List (Int × List Int)) :=
 match shGet at_ sh with
 | some o => if o = s then some (shPut at_ s sh) else none
 | none => some (shPut at_ s sh)
def gahead (i a : Int) : Bool := decide (a < 0) || decide (i ≤ a)
/-- A node more: none, if it may not be. -/
def gstep (i : Int) (n : S35) (sh : List (Int × List Int)) : Option (List (Int × List Int)) :=
 match gkind n.f0 with
 | none => none
 | some kd => if (n.f1.length : Int) = kd.1 ∧ wellB n kd = true ∧ n.f1.any (gahead i) = false then
   (if n.f0 = 1 then gseen (-1) n.f2 sh else if n.f0 = 2 then gseen (rd n.f2 0) n.f2 sh else some sh) else none
def gall : Int → List S35 → List (Int × List Int) → Bool
 | _, [], _ => true
 | i, n :: r, sh => match gstep i n sh with
  | none => false
  | some sh' => gall (i + 1) r sh'
/-- May a graph be? -/
def gchk (l0 : List S35) : Bool := gall 0 l0 [] && decide (0 < l0.length) && decide (l0.length ≤ 24)
def graph_Check.f (l0 : List S35) : Option Bool := some (gchk l0)
/-- Shapes that are told by their name, as they lie in memory. -/
def ShR (w : World) : List (Int × Value) → List (Int × List Int) → Prop
 | [], [] => True
 | p :: es, q :: sh => p.1 = q.1 ∧ (∃ A c, p.2 = .slice A q.2.length c ∧ q.2.length ≤ c ∧ Kd.C (Kd.int .i64) w A q.2.length q.2) ∧ ShR w es sh
 | _, _ => False
theorem ShR.get {w : World} (k : Int) : ∀ {es : List (Int × Value)} {sh : List (Int × List Int)}, ShR w es sh →
  (imGet k es = none ∧ shGet k sh = none) ∨ ∃ A c s, imGet k es = some (.slice A s.length c) ∧ shGet k sh = some s ∧ s.length ≤ c ∧ Kd.C (Kd.int .i64) w A s.length s
 | [], [], _ => .inl ⟨rfl, rfl⟩
 | p :: es, q :: sh, h => by
  obtain ⟨h1, ⟨A, c, h2, h3, h4⟩, h5⟩ := h
  by_cases hk : k = p.1
  ·exact .inr ⟨A, c, q.2, by rw [imGet, if_pos hk, h2], by rw [shGet, if_pos (hk.trans h1)], h3, h4⟩
  ·rw [imGet, if_neg hk, shGet, if_neg (by rw [← h1]; exact hk)]
   exact ShR.get k h5
 | [], _ :: _, h => h.elim
 | _ :: _, [], h => h.elim
theorem ShR.put {w : World} (k : Int) {A : Option Addr} {c : Nat} {s : List Int} (hc : s.length ≤ c) (hr : Kd.C (Kd.int .i64) w A s.length s) : ∀ {es : List (Int × Value)} {sh : List (Int × List Int)}, ShR w es sh →
  ShR w (imPut k (.slice A s.length c) es) (shPut k s sh)
 | [], [], _ => ⟨rfl, ⟨A, c, rfl, hc, hr⟩, trivial⟩
 | p :: es, q :: sh, h => by
  obtain ⟨h1, h2, h5⟩ := h
  by_cases hk : k = p.1
  ·rw [imPut, if_pos hk, shPut, if_pos (hk.trans h1)]
   exact ⟨rfl, ⟨A, c, rfl, hc, hr⟩, h5⟩
  ·rw [imPut, if_neg hk, shPut, if_neg (by rw [← h1]; exact hk)]
   exact ⟨h1, h2, ShR.put k hc hr h5⟩
 | [], _ :: _, h => h.elim
 | _ :: _, [], h => h.elim
theorem kindGet (op : Int) : imGet op (kindV kindL) = (gkind op).map fun p => Value.agg #[.int .i64 p.1, .int .i64 p.2] := by
 have key : ∀ l : List (Int × (Int × Int)), imGet op (kindV l) = ((l.find? (fun p => decide (op = p.1))).map (·.2)).map fun p => Value.agg #[.int .i64 p.1, .int .i64 p.2] := by
  intro l
  induction l with
  | nil => rfl
  | cons p r ih =>
   by_cases h : op = p.1
   ·simp [kindV, imGet, h]
   ·simp only [kindV, List.map_cons, imGet, if_neg h]
    rw [show imGet op (List.map (fun p => (p.1, Value.agg #[.int .i64 p.2.1, .int .i64 p.2.2])) r) = imGet op (kindV r) from rfl, ih, List.find?_cons_of_neg (by simpa using h)]
 exact key kindL
set_option maxHeartbeats 8000000 in
set_option maxRecDepth 100000 in
theorem ahead_calls (a i : Int) (p : Addr) (W : World) (hc : W.cell? p = some (.int .i64 i)) :
  Calls Try.prog 29 #[.int .i64 a, .pointer (some p)] W fun e w' => e = .returned (.bool (gahead i a)) ∧ Below W.heap.size W w' := by
 by_cases h0 : a < 0
 ·have b0 : decide (a < 0) = true := decide_eq_true h0
  have hr : gahead i a = true := by simp [gahead, h0]
  rw [hr]
  clear h0 hr
  go_enter Try.func29, Try.ntmps29
  go_wp2
  go_ret
  exact ⟨rfl, Below.refl _ _⟩
 ·have b0 : decide (a < 0) = false := decide_eq_false h0
  have hr : gahead i a = decide (i ≤ a) := by simp [gahead, h0]
  rw [hr]
  clear h0 hr
  go_enter Try.func29, Try.ntmps29
  go_wp2
  go_ret
  exact ⟨rfl, Below.refl _ _⟩
theorem name_cases {n : S35} {kd : Int × Int} (hk : gkind n.f0 = some kd) (hw : wellB n kd = true) :
  (graph_name.f n.f0 n.f1 n.f2 = some (0, false) ∧ ∀ sh, (if n.f0 = 1 then gseen (-1) n.f2 sh else if n.f0 = 2 then gseen (rd n.f2 0) n.f2 sh else some sh) = some sh) ∨
  ∃ at_, graph_name.f n.f0 n.f1 n.f2 = some (at_, true) ∧ ∀ sh, (if n.f0 = 1 then gseen (-1) n.f2 sh else if n.f0 = 2 then gseen (rd n.f2 0) n.f2 sh else some sh) = gseen at_ n.f2 sh := by
 unfold graph_name.f
 by_cases h1 : n.f0 = 1
 ·rw [if_pos h1]
  exact .inr ⟨-1, rfl, fun sh => by rw [if_pos h1]⟩
 ·rw [if_neg h1]
  by_cases h2 : n.f0 = 2
  ·rw [if_pos h2]
   have hk2 : kd = (0, -2) := by
    rw [h2] at hk
    have : gkind 2 = some (0, -2) := by decide
    rw [this] at hk
    injection hk with hk
    exact hk.symm
   have hpos : 0 < (n.f2.length : Int) := by
    have hs := well_some n kd
    rw [hw, hk2] at hs
    unfold graph_well.f at hs
    rw [if_pos rfl] at hs
    split at hs
    ·cases hs
    ·omega
   rw [if_pos hpos]
   exact .inr ⟨_, rfl, fun sh => by rw [if_neg h1, if_pos h2]⟩
  ·rw [if_neg h2]
   exact .inl ⟨rfl, fun sh => by rw [if_neg h1, if_neg h2]⟩
/-- The round's own variables, as they lie in memory. -/
structure GBox (wr W : World) (i x0 : Int) (v1 v2 : Value) (ka kn : Int) : Prop where
 bel : Below wr.heap.size wr W
 size : wr.heap.size + 3 ≤ W.heap.size
 ci : W.cell? ⟨wr.heap.size, 0, none⟩ = some (.int .i64 i)
 n0 : W.cell? ⟨wr.heap.size + 1, 0, none⟩ = some (.int .i64 x0)
 n1 : W.cell? ⟨wr.heap.size + 1, 1, none⟩ = some v1
 n2 : W.cell? ⟨wr.heap.size + 1, 2, none⟩ = some v2
 k0 : W.cell? ⟨wr.heap.size + 1 + 1, 0, none⟩ = some (.int .i64 ka)
 k1 : W.cell? ⟨wr.heap.size + 1 + 1, 1, none⟩ = some (.int .i64 kn)
theorem GBox.next {wr W W' : World} {i x0 : Int} {v1 v2 : Value} {ka kn : Int} (h : GBox wr W i x0 v1 v2 ka kn) (hb : Below W.heap.size W W') : GBox wr W' i x0 v1 v2 ka kn :=
 have hs := h.size
 ⟨below_step h.bel hb, Nat.le_trans hs hb.size, pw_cell_below hb h.ci, pw_cell_below hb h.n0, pw_cell_below hb h.n1, pw_cell_below hb h.n2, pw_cell_below hb h.k0, pw_cell_below hb h.k1⟩
theorem GBox.start (wr : World) (i x0 : Int) (v1 v2 : Value) (ka kn : Int) (t u v : TypeId) :
  GBox wr (((wr.alloc (.cells #[.int .i64 i] t)).alloc (.cells #[.int .i64 x0, v1, v2] u)).alloc (.cells #[.int .i64 ka, .int .i64 kn] v)) i x0 v1 v2 ka kn := by
 refine ⟨below_alloc (below_alloc (below_alloc (Below.refl _ _) _) _) _, by simp, ?_, ?_, ?_, ?_, ?_, ?_⟩
 ·rw [World.cell?_alloc_past _ _ _ (by simp; omega), World.cell?_alloc_past _ _ _ (by simp), World.cell?_alloc_at _ _ _ _ rfl]; rfl
 ·rw [World.cell?_alloc_past _ _ _ (by simp), World.cell?_alloc_at _ _ _ _ (by simp)]; rfl
 ·rw [World.cell?_alloc_past _ _ _ (by simp), World.cell?_alloc_at _ _ _ _ (by simp)]; rfl
 ·rw [World.cell?_alloc_past _ _ _ (by simp), World.cell?_alloc_at _ _ _ _ (by simp)]; rfl
 ·rw [World.cell?_alloc_at _ _ _ _ (by simp)]; rfl
 ·rw [World.cell?_alloc_at _ _ _ _ (by simp)]; rfl
/-- What holds of the world ahead of a round. -/
structure GInv (w : World) (bk : Nat) (n1 : Nat) (wr : World) (es : List (Int × Value)) (sh : List (Int × List Int)) : Prop where
 bel : Below w.heap.size w wr
 size : w.heap.size ≤ bk ∧ bk < n1 ∧ n1 < wr.heap.size
 kinds : IM wr bk (kindV kindL)
 im : IM wr n1 es
 sh : ShR w es sh
set_option maxHeartbeats 8000000 in
set_option maxRecDepth 100000 in
theorem graph_Check.calls (A0 : Option Addr) (c0 : Nat) (l0 : List S35) (r : Bool) (w : World) (hr0 : Kd.C k35 w A0 l0.length l0) (hc0 : l0.length ≤ c0) (h : graph_Check.f l0 = some r) :
  Calls Try.prog 13 #[.slice A0 l0.length c0] w fun e w' => e = .returned (.bool r) ∧ Below w.heap.size w w' := by
 unfold graph_Check.f at h
 replace h := Option.some.inj h
 unfold gchk at h
 have HR := Aside0.mk hr0
 have HH := Aside0.mk h
 have hbig := hr0.2.1
 have hmm := @run_makeMap Try.prog
 clear hr0 h hc0
 go_enter Try.func13, Try.ntmps13
 go_wp2_with (go_at_call 28; (with_reducible refine (graph_kinds.calls _).mono ?_); rintro e w1 ⟨bk, rfl, hk1, hk2, hk3, hb1⟩; have HK3 := Aside0.mk hk3; have HB1 := Aside0.mk hb1; clear hk3 hb1)
 have HI : Aside0 (GInv w bk w1.heap.size (w1.alloc (.map #[] 0)) [] []) := ⟨below_alloc HB1.out _, ⟨hk1, hk2, by simp⟩, HK3.out.below (B := w1.heap.size) ((Below.refl _ _).alloc (Nat.le_refl _) _) hk2, IM.made w1, trivial⟩
 have hz49 : ∀ W : World, (zeroValue 44).run Try.prog W = .ok (.agg #[.int .i64 0, .int .i64 0]) W := fun W => by kernel_rfl
 have hz34 : ∀ W : World, (zeroValue 25).run Try.prog W = .ok (.slice none 0 0) W := fun W => by kernel_rfl
 go_loopg [18] l0.length (fun gg s18 wr => ∃ (kk : Nat) (es : List (Int × Value)) (sh : List (Int × List Int)), s18 = .int .i64 kk ∧ Aside0 (kk ≤ l0.length ∧ l0.length - kk ≤ gg) ∧ Aside0 (GInv w bk w1.heap.size wr es sh) ∧ Aside0 (gall 0 l0 [] = gall kk (l0.drop kk) sh))
 case atStart => exact ⟨0, [], [], rfl, ⟨Nat.zero_le _, by omega⟩, HI, ⟨rfl⟩⟩
 case round =>
  obtain ⟨kk, es, sh, rfl, HK, HG, HA⟩ := hrel
  clear HI
  by_cases hlt : kk < l0.length
  ·have hltz : (kk : Int) < (l0.length : Int) := by omega
   have hbz : decide ((kk : Int) < (l0.length : Int)) = true := decide_eq_true hltz
   obtain ⟨ad, A1, c1, A2, c2, eA, hx0, hx1, hx2, hl1, hi1, hl2, hi2⟩ := at_T35 HR.out (kk : Int) (by omega) hltz
   replace hx0 := pw_cell_below HG.out.bel hx0
   replace hx1 := pw_cell_below HG.out.bel hx1
   replace hx2 := pw_cell_below HG.out.bel hx2
   simp only [Int.toNat_natCast] at hx0 hx1 hx2
   obtain ⟨n, hn⟩ : ∃ n, n = rd_T35 l0 (kk : Int) := ⟨_, rfl⟩
   have hd : l0.drop kk = n :: l0.drop (kk + 1) := by
    rw [List.drop_eq_getElem_cons hlt, hn]
    simp [rd_T35, hlt]
   rw [← hn] at hx0 hx1 hx2 hl1 hi1 hl2 hi2
   subst eA
   have HB := Aside0.mk HG.out.bel
   have HS := Aside0.mk HG.out.size
   have HKI := Aside0.mk HG.out.kinds
   have HIM := Aside0.mk HG.out.im
   have HSH := Aside0.mk HG.out.sh
   rw [hd] at HA
   have HI1 := Aside0.mk (Kd.C_below hi1 HB.out)
   have HI2 := Aside0.mk (Kd.C_below hi2 HB.out)
   have HI2w := Aside0.mk hi2
   have HL1 := Aside0.mk hl1
   have HL2 := Aside0.mk hl2
   have HKL := Aside0.mk (show bk < wr.heap.size by have := HG.out.size; omega)
   clear hd hn hi1 hi2 hl1 hl2 HG hk1 hk2 HK3 HB1
   cases hg : gkind n.f0 with
   | none =>
    have hget := kindGet n.f0
    rw [hg] at hget
    have HGET := Aside0.mk hget
    obtain rfl : r = false := by
     rw [← HH.out, HA.out]
     simp [gall, gstep, hg]
    clear hg hget
    go_wp2_with (with_reducible refine wpList_im_miss (o := ⟨_, .lookup 40 _ _ true, _, _, _, _⟩) rfl _ _ rfl Try.underlying40 Try.underlying3 (hz49 _) _ HGET.out (HKI.out.below (below_alloc (below_alloc (Below.refl _ _) _) _) HKL.out) rfl rfl ?_)
    go_ret
    exact ⟨rfl, below_alloc (below_alloc (below_alloc HB.out _) _) _⟩
   | some kd =>
    obtain ⟨ka, kn⟩ := kd
    have hget := kindGet n.f0
    rw [hg] at hget
    have HGET := Aside0.mk hget
    have HGK := Aside0.mk hg
    have HW := Aside0.mk (well_some n (ka, kn))
    clear hg hget
    by_cases ha : (n.f1.length : Int) = ka
    ·have hb0 : ((n.f1.length : Int) == ka) = true := beq_iff_eq.mpr ha
     have hb1 : ((n.f1.length : Int) != ka) = false := bne_eq_false_iff_eq.mpr ha
     have HLA := Aside0.mk ha
     clear ha
     have HX := Aside0.mk (GBox.start wr kk n.f0 (.slice A1 n.f1.length c1) (.slice A2 n.f2.length c2) ka kn 3 35 44)
     cases hw : wellB n (ka, kn) with
     | false =>
      rw [hw] at HW
      obtain rfl : r = false := by
       rw [← HH.out, HA.out]
       simp [gall, gstep, HGK.out, hw]
      clear hw
      go_wp2_with (first | (with_reducible refine wpList_im_hit (o := ⟨_, .lookup 40 _ _ true, _, _, _, _⟩) rfl _ _ rfl Try.underlying40 Try.underlying3 (hz49 _) _ _ HGET.out (HKI.out.below (below_alloc (below_alloc (Below.refl _ _) _) _) HKL.out) rfl rfl ?_) | (go_at_call 30; (with_reducible refine (graph_well.calls 8 n.f0 A1 c1 n.f1 A2 c2 n.f2 ka kn _ _ ?s1 HL1.out ?s2 HL2.out HW.out).mono ?_); (case s1 => exact Kd.C_below HI1.out HX.out.bel); (case s2 => exact Kd.C_below HI2.out HX.out.bel); rintro e w2 ⟨rfl, hb⟩; have hn_ := Aside0.mk (HX.out.next hb); clear HX hb; have HX := hn_; clear hn_; (try clear ci n0 n1 n2 k0 k1); have ci := HX.out.ci; have n0 := HX.out.n0; have n1 := HX.out.n1; have n2 := HX.out.n2; have k0 := HX.out.k0; have k1 := HX.out.k1))
      go_ret
      exact ⟨rfl, below_step HB.out HX.out.bel⟩
     | true =>
      rw [hw] at HW
      have HWT := Aside0.mk hw
      clear hw
      cases hany : n.f1.any (gahead kk) with
      | true =>
       obtain rfl : r = false := by
        rw [← HH.out, HA.out]
        simp [gall, gstep, HGK.out, hany]
       have HANY := Aside0.mk hany
       clear hany
       go_wp2_with (first | (with_reducible refine wpList_im_hit (o := ⟨_, .lookup 40 _ _ true, _, _, _, _⟩) rfl _ _ rfl Try.underlying40 Try.underlying3 (hz49 _) _ _ HGET.out (HKI.out.below (below_alloc (below_alloc (Below.refl _ _) _) _) HKL.out) rfl rfl ?_) | (go_at_call 30; (with_reducible refine (graph_well.calls 8 n.f0 A1 c1 n.f1 A2 c2 n.f2 ka kn _ _ ?s1 HL1.out ?s2 HL2.out HW.out).mono ?_); (case s1 => exact Kd.C_below HI1.out HX.out.bel); (case s2 => exact Kd.C_below HI2.out HX.out.bel); rintro e w2 ⟨rfl, hb⟩; have hn_ := Aside0.mk (HX.out.next hb); clear HX hb; have HX := hn_; clear hn_; (try clear ci n0 n1 n2 k0 k1); have ci := HX.out.ci; have n0 := HX.out.n0; have n1 := HX.out.n1; have n2 := HX.out.n2; have k0 := HX.out.k0; have k1 := HX.out.k1) | (go_at_call 31; (with_reducible refine (slices_ContainsFunc_int_int.by_ (gahead kk) 29 #[.pointer (some ⟨wr.heap.size, 0, none⟩)] A1 c1 n.f1 _ ?s1 ?s2 ?s3).mono ?_); (case s1 => exact Kd.C_below HI1.out HX.out.bel); (case s2 => exact enters_ Try.prog Try.func29 (by kernel_rfl) rfl); (case s3 => exact fun W x _ hb => ahead_calls x kk ⟨wr.heap.size, 0, none⟩ W (pw_cell_below hb HX.out.ci)); rintro e w3 ⟨rfl, hb⟩; rw [HANY.out]; have hn_ := Aside0.mk (HX.out.next hb); clear HX hb; have HX := hn_; clear hn_; (try clear ci n0 n1 n2 k0 k1); have ci := HX.out.ci; have n0 := HX.out.n0; have n1 := HX.out.n1; have n2 := HX.out.n2; have k0 := HX.out.k0; have k1 := HX.out.k1))
       go_ret
       exact ⟨rfl, below_step HB.out HX.out.bel⟩
      | false =>
       have HANY := Aside0.mk hany
       have HNL := Aside0.mk (show w1.heap.size < wr.heap.size from HS.out.2.2)
       clear hany
       rcases name_cases HGK.out HWT.out with ⟨hn, hnm⟩ | ⟨at_, hn, hnm⟩
       ·have HN := Aside0.mk hn
        have HNM := Aside0.mk hnm
        clear hn hnm
        go_wp2_with (first | (with_reducible refine wpList_im_hit (o := ⟨_, .lookup 40 _ _ true, _, _, _, _⟩) rfl _ _ rfl Try.underlying40 Try.underlying3 (hz49 _) _ _ HGET.out (HKI.out.below (below_alloc (below_alloc (Below.refl _ _) _) _) HKL.out) rfl rfl ?_) | (go_at_call 30; (with_reducible refine (graph_well.calls 8 n.f0 A1 c1 n.f1 A2 c2 n.f2 ka kn _ _ ?s1 HL1.out ?s2 HL2.out HW.out).mono ?_); (case s1 => exact Kd.C_below HI1.out HX.out.bel); (case s2 => exact Kd.C_below HI2.out HX.out.bel); rintro e w2 ⟨rfl, hb⟩; have hn_ := Aside0.mk (HX.out.next hb); clear HX hb; have HX := hn_; clear hn_; (try clear ci n0 n1 n2 k0 k1); have ci := HX.out.ci; have n0 := HX.out.n0; have n1 := HX.out.n1; have n2 := HX.out.n2; have k0 := HX.out.k0; have k1 := HX.out.k1) | (go_at_call 31; (with_reducible refine (slices_ContainsFunc_int_int.by_ (gahead kk) 29 #[.pointer (some ⟨wr.heap.size, 0, none⟩)] A1 c1 n.f1 _ ?s1 ?s2 ?s3).mono ?_); (case s1 => exact Kd.C_below HI1.out HX.out.bel); (case s2 => exact enters_ Try.prog Try.func29 (by kernel_rfl) rfl); (case s3 => exact fun W x _ hb => ahead_calls x kk ⟨wr.heap.size, 0, none⟩ W (pw_cell_below hb HX.out.ci)); rintro e w3 ⟨rfl, hb⟩; rw [HANY.out]; have hn_ := Aside0.mk (HX.out.next hb); clear HX hb; have HX := hn_; clear hn_; (try clear ci n0 n1 n2 k0 k1); have ci := HX.out.ci; have n0 := HX.out.n0; have n1 := HX.out.n1; have n2 := HX.out.n2; have k0 := HX.out.k0; have k1 := HX.out.k1) | (go_at_call 32; (with_reducible refine (graph_name.calls n.f0 A1 c1 n.f1 A2 c2 n.f2 _ _ _ ?s1 HL1.out ?s2 HL2.out HN.out).mono ?_); (case s1 => exact Kd.C_below HI1.out HX.out.bel); (case s2 => exact Kd.C_below HI2.out HX.out.bel); rintro e w4 ⟨rfl, hb⟩; have hn_ := Aside0.mk (HX.out.next hb); clear HX hb; have HX := hn_; clear hn_; (try clear ci n0 n1 n2 k0 k1); have ci := HX.out.ci; have n0 := HX.out.n0; have n1 := HX.out.n1; have n2 := HX.out.n2; have k0 := HX.out.k0; have k1 := HX.out.k1))
        go_roundg (l0.length - (kk + 1))
        case measure => have := HK.out; omega
        case rel =>
         refine ⟨kk + 1, es, sh, by go_num, ⟨by have := HK.out; omega, by omega⟩, ⟨below_step HB.out HX.out.bel, ⟨HS.out.1, HS.out.2.1, Nat.lt_of_lt_of_le HNL.out HX.out.bel.size⟩, HKI.out.below HX.out.bel HKL.out, HIM.out.below HX.out.bel HNL.out, HSH.out⟩, ⟨?_⟩⟩
         rw [HA.out, gall, gstep, HGK.out]
         simp only [HLA.out, HWT.out, HANY.out, and_self, if_true, HNM.out]
         norm_cast
       ·have HN := Aside0.mk hn
        have HNM := Aside0.mk hnm
        clear hn hnm
        rcases HSH.out.get at_ with ⟨h1, h2⟩ | ⟨As, cs, s, h1, h2, h3, h4⟩
        ·have HSG := Aside0.mk h1
         have HSE := Aside0.mk (show ∀ s, gseen at_ s sh = some (shPut at_ s sh) from fun s => by rw [gseen, h2])
         clear h1 h2
         go_wp2_with (first | (with_reducible refine wpList_im_hit (o := ⟨_, .lookup 40 _ _ true, _, _, _, _⟩) rfl _ _ rfl Try.underlying40 Try.underlying3 (hz49 _) _ _ HGET.out (HKI.out.below (below_alloc (below_alloc (Below.refl _ _) _) _) HKL.out) rfl rfl ?_) | (go_at_call 30; (with_reducible refine (graph_well.calls 8 n.f0 A1 c1 n.f1 A2 c2 n.f2 ka kn _ _ ?s1 HL1.out ?s2 HL2.out HW.out).mono ?_); (case s1 => exact Kd.C_below HI1.out HX.out.bel); (case s2 => exact Kd.C_below HI2.out HX.out.bel); rintro e w2 ⟨rfl, hb⟩; have hn_ := Aside0.mk (HX.out.next hb); clear HX hb; have HX := hn_; clear hn_; (try clear ci n0 n1 n2 k0 k1); have ci := HX.out.ci; have n0 := HX.out.n0; have n1 := HX.out.n1; have n2 := HX.out.n2; have k0 := HX.out.k0; have k1 := HX.out.k1) | (go_at_call 31; (with_reducible refine (slices_ContainsFunc_int_int.by_ (gahead kk) 29 #[.pointer (some ⟨wr.heap.size, 0, none⟩)] A1 c1 n.f1 _ ?s1 ?s2 ?s3).mono ?_); (case s1 => exact Kd.C_below HI1.out HX.out.bel); (case s2 => exact enters_ Try.prog Try.func29 (by kernel_rfl) rfl); (case s3 => exact fun W x _ hb => ahead_calls x kk ⟨wr.heap.size, 0, none⟩ W (pw_cell_below hb HX.out.ci)); rintro e w3 ⟨rfl, hb⟩; rw [HANY.out]; have hn_ := Aside0.mk (HX.out.next hb); clear HX hb; have HX := hn_; clear hn_; (try clear ci n0 n1 n2 k0 k1); have ci := HX.out.ci; have n0 := HX.out.n0; have n1 := HX.out.n1; have n2 := HX.out.n2; have k0 := HX.out.k0; have k1 := HX.out.k1) | (go_at_call 32; (with_reducible refine (graph_name.calls n.f0 A1 c1 n.f1 A2 c2 n.f2 _ _ _ ?s1 HL1.out ?s2 HL2.out HN.out).mono ?_); (case s1 => exact Kd.C_below HI1.out HX.out.bel); (case s2 => exact Kd.C_below HI2.out HX.out.bel); rintro e w4 ⟨rfl, hb⟩; have hn_ := Aside0.mk (HX.out.next hb); clear HX hb; have HX := hn_; clear hn_; (try clear ci n0 n1 n2 k0 k1); have ci := HX.out.ci; have n0 := HX.out.n0; have n1 := HX.out.n1; have n2 := HX.out.n2; have k0 := HX.out.k0; have k1 := HX.out.k1) | (with_reducible refine wpList_im_miss (o := ⟨_, .lookup 42 _ _ true, _, _, _, _⟩) rfl _ _ rfl Try.underlying42 Try.underlying3 (hz34 _) _ HSG.out (HIM.out.below HX.out.bel HNL.out) rfl rfl ?_) | ((with_reducible refine wpList_im_put (o := ⟨none, .mapUpdate 42 _ _ _, _, _, _, _⟩) rfl _ _ _ (Or.inr rfl) Try.underlying42 Try.underlying3 _ _ (HIM.out.below HX.out.bel HNL.out) rfl rfl rfl ?_); intro w6 him hgr; have HIM6 := Aside0.mk him; have HGR := Aside0.mk hgr; clear him hgr))
         go_roundg (l0.length - (kk + 1))
         case measure => have := HK.out; omega
         case rel =>
          have hbel := below_step HB.out HX.out.bel
          have hlt6 := Nat.lt_of_lt_of_le HNL.out HX.out.bel.size
          refine ⟨kk + 1, _, shPut at_ n.f2 sh, by go_num, ⟨by have := HK.out; omega, by omega⟩, ⟨hbel.grown HGR.out (Nat.le_trans HB.out.size HX.out.bel.size) (fun k hk => by injection hk with hk; have := HS.out; omega), ⟨HS.out.1, HS.out.2.1, Nat.lt_of_lt_of_le hlt6 HGR.out.size⟩, (HKI.out.below HX.out.bel HKL.out).keep (HGR.out.block bk (Nat.lt_of_lt_of_le HKL.out HX.out.bel.size) (by have := HS.out.2.1; simp; omega)), HIM6.out, HSH.out.put at_ HL2.out HI2w.out⟩, ⟨?_⟩⟩
          rw [HA.out, gall, gstep, HGK.out]
          simp only [HLA.out, HWT.out, HANY.out, and_self, if_true, HNM.out, HSE.out]
          norm_cast
        ·have HSG := Aside0.mk h1
         have HSC := Aside0.mk h3
         have HSR := Aside0.mk h4
         have hlen := well_len (kinds_le HGK.out) HWT.out
         have hlen10 : n.f2.length ≤ 10 := by omega
         by_cases hs : s = n.f2
         ·have HSE := Aside0.mk (show gseen at_ n.f2 sh = some (shPut at_ n.f2 sh) by rw [gseen, h2]; simp only [hs, if_true])
          have HEQ := Aside0.mk (gc_eq s n.f2 hlen10)
          have HDE := Aside0.mk (show decide (s = n.f2) = true from decide_eq_true hs)
          clear h1 h2 h3 h4 hs hlen hlen10
          go_wp2_with (first | (with_reducible refine wpList_im_hit (o := ⟨_, .lookup 40 _ _ true, _, _, _, _⟩) rfl _ _ rfl Try.underlying40 Try.underlying3 (hz49 _) _ _ HGET.out (HKI.out.below (below_alloc (below_alloc (Below.refl _ _) _) _) HKL.out) rfl rfl ?_) | (go_at_call 30; (with_reducible refine (graph_well.calls 8 n.f0 A1 c1 n.f1 A2 c2 n.f2 ka kn _ _ ?s1 HL1.out ?s2 HL2.out HW.out).mono ?_); (case s1 => exact Kd.C_below HI1.out HX.out.bel); (case s2 => exact Kd.C_below HI2.out HX.out.bel); rintro e w2 ⟨rfl, hb⟩; have hn_ := Aside0.mk (HX.out.next hb); clear HX hb; have HX := hn_; clear hn_; (try clear ci n0 n1 n2 k0 k1); have ci := HX.out.ci; have n0 := HX.out.n0; have n1 := HX.out.n1; have n2 := HX.out.n2; have k0 := HX.out.k0; have k1 := HX.out.k1) | (go_at_call 31; (with_reducible refine (slices_ContainsFunc_int_int.by_ (gahead kk) 29 #[.pointer (some ⟨wr.heap.size, 0, none⟩)] A1 c1 n.f1 _ ?s1 ?s2 ?s3).mono ?_); (case s1 => exact Kd.C_below HI1.out HX.out.bel); (case s2 => exact enters_ Try.prog Try.func29 (by kernel_rfl) rfl); (case s3 => exact fun W x _ hb => ahead_calls x kk ⟨wr.heap.size, 0, none⟩ W (pw_cell_below hb HX.out.ci)); rintro e w3 ⟨rfl, hb⟩; rw [HANY.out]; have hn_ := Aside0.mk (HX.out.next hb); clear HX hb; have HX := hn_; clear hn_; (try clear ci n0 n1 n2 k0 k1); have ci := HX.out.ci; have n0 := HX.out.n0; have n1 := HX.out.n1; have n2 := HX.out.n2; have k0 := HX.out.k0; have k1 := HX.out.k1) | (go_at_call 32; (with_reducible refine (graph_name.calls n.f0 A1 c1 n.f1 A2 c2 n.f2 _ _ _ ?s1 HL1.out ?s2 HL2.out HN.out).mono ?_); (case s1 => exact Kd.C_below HI1.out HX.out.bel); (case s2 => exact Kd.C_below HI2.out HX.out.bel); rintro e w4 ⟨rfl, hb⟩; have hn_ := Aside0.mk (HX.out.next hb); clear HX hb; have HX := hn_; clear hn_; (try clear ci n0 n1 n2 k0 k1); have ci := HX.out.ci; have n0 := HX.out.n0; have n1 := HX.out.n1; have n2 := HX.out.n2; have k0 := HX.out.k0; have k1 := HX.out.k1) | (with_reducible refine wpList_im_hit (o := ⟨_, .lookup 42 _ _ true, _, _, _, _⟩) rfl _ _ rfl Try.underlying42 Try.underlying3 (hz34 _) _ _ HSG.out (HIM.out.below HX.out.bel HNL.out) rfl rfl ?_) | (go_at_call 33; (with_reducible refine (slices_Equal_int_int.calls 12 As cs s A2 c2 n.f2 _ _ ?s1 HSC.out ?s2 HL2.out HEQ.out).mono ?_); (case s1 => exact Kd.C_below HSR.out (below_step HB.out HX.out.bel)); (case s2 => exact Kd.C_below HI2.out HX.out.bel); rintro e w5 ⟨rfl, hd⟩; rw [HDE.out]; have hb := hd.below; clear hd; have hn_ := Aside0.mk (HX.out.next hb); clear HX hb; have HX := hn_; clear hn_; (try clear ci n0 n1 n2 k0 k1); have ci := HX.out.ci; have n0 := HX.out.n0; have n1 := HX.out.n1; have n2 := HX.out.n2; have k0 := HX.out.k0; have k1 := HX.out.k1) | ((with_reducible refine wpList_im_put (o := ⟨none, .mapUpdate 42 _ _ _, _, _, _, _⟩) rfl _ _ _ (Or.inr rfl) Try.underlying42 Try.underlying3 _ _ (HIM.out.below HX.out.bel HNL.out) rfl rfl rfl ?_); intro w6 him hgr; have HIM6 := Aside0.mk him; have HGR := Aside0.mk hgr; clear him hgr))
          go_roundg (l0.length - (kk + 1))
          case measure => have := HK.out; omega
          case rel =>
           have hbel := below_step HB.out HX.out.bel
           have hlt6 := Nat.lt_of_lt_of_le HNL.out HX.out.bel.size
           refine ⟨kk + 1, _, shPut at_ n.f2 sh, by go_num, ⟨by have := HK.out; omega, by omega⟩, ⟨hbel.grown HGR.out (Nat.le_trans HB.out.size HX.out.bel.size) (fun k hk => by injection hk with hk; have := HS.out; omega), ⟨HS.out.1, HS.out.2.1, Nat.lt_of_lt_of_le hlt6 HGR.out.size⟩, (HKI.out.below HX.out.bel HKL.out).keep (HGR.out.block bk (Nat.lt_of_lt_of_le HKL.out HX.out.bel.size) (by have := HS.out.2.1; simp; omega)), HIM6.out, HSH.out.put at_ HL2.out HI2w.out⟩, ⟨?_⟩⟩
           rw [HA.out, gall, gstep, HGK.out]
           simp only [HLA.out, HWT.out, HANY.out, and_self, if_true, HNM.out, HSE.out]
           norm_cast
         ·have hgs : gseen at_ n.f2 sh = none := by rw [gseen, h2]; simp only [hs, if_false]
          have HEQ := Aside0.mk (gc_eq s n.f2 hlen10)
          have HDE := Aside0.mk (show decide (s = n.f2) = false from decide_eq_false hs)
          obtain rfl : r = false := by
           rw [← HH.out, HA.out, gall, gstep, HGK.out]
           simp only [HLA.out, HWT.out, HANY.out, and_self, if_true, HNM.out, hgs, Bool.false_and]
          clear h1 h2 h3 h4 hs hlen hlen10 hgs
          go_wp2_with (first | (with_reducible refine wpList_im_hit (o := ⟨_, .lookup 40 _ _ true, _, _, _, _⟩) rfl _ _ rfl Try.underlying40 Try.underlying3 (hz49 _) _ _ HGET.out (HKI.out.below (below_alloc (below_alloc (Below.refl _ _) _) _) HKL.out) rfl rfl ?_) | (go_at_call 30; (with_reducible refine (graph_well.calls 8 n.f0 A1 c1 n.f1 A2 c2 n.f2 ka kn _ _ ?s1 HL1.out ?s2 HL2.out HW.out).mono ?_); (case s1 => exact Kd.C_below HI1.out HX.out.bel); (case s2 => exact Kd.C_below HI2.out HX.out.bel); rintro e w2 ⟨rfl, hb⟩; have hn_ := Aside0.mk (HX.out.next hb); clear HX hb; have HX := hn_; clear hn_; (try clear ci n0 n1 n2 k0 k1); have ci := HX.out.ci; have n0 := HX.out.n0; have n1 := HX.out.n1; have n2 := HX.out.n2; have k0 := HX.out.k0; have k1 := HX.out.k1) | (go_at_call 31; (with_reducible refine (slices_ContainsFunc_int_int.by_ (gahead kk) 29 #[.pointer (some ⟨wr.heap.size, 0, none⟩)] A1 c1 n.f1 _ ?s1 ?s2 ?s3).mono ?_); (case s1 => exact Kd.C_below HI1.out HX.out.bel); (case s2 => exact enters_ Try.prog Try.func29 (by kernel_rfl) rfl); (case s3 => exact fun W x _ hb => ahead_calls x kk ⟨wr.heap.size, 0, none⟩ W (pw_cell_below hb HX.out.ci)); rintro e w3 ⟨rfl, hb⟩; rw [HANY.out]; have hn_ := Aside0.mk (HX.out.next hb); clear HX hb; have HX := hn_; clear hn_; (try clear ci n0 n1 n2 k0 k1); have ci := HX.out.ci; have n0 := HX.out.n0; have n1 := HX.out.n1; have n2 := HX.out.n2; have k0 := HX.out.k0; have k1 := HX.out.k1) | (go_at_call 32; (with_reducible refine (graph_name.calls n.f0 A1 c1 n.f1 A2 c2 n.f2 _ _ _ ?s1 HL1.out ?s2 HL2.out HN.out).mono ?_); (case s1 => exact Kd.C_below HI1.out HX.out.bel); (case s2 => exact Kd.C_below HI2.out HX.out.bel); rintro e w4 ⟨rfl, hb⟩; have hn_ := Aside0.mk (HX.out.next hb); clear HX hb; have HX := hn_; clear hn_; (try clear ci n0 n1 n2 k0 k1); have ci := HX.out.ci; have n0 := HX.out.n0; have n1 := HX.out.n1; have n2 := HX.out.n2; have k0 := HX.out.k0; have k1 := HX.out.k1) | (with_reducible refine wpList_im_hit (o := ⟨_, .lookup 42 _ _ true, _, _, _, _⟩) rfl _ _ rfl Try.underlying42 Try.underlying3 (hz34 _) _ _ HSG.out (HIM.out.below HX.out.bel HNL.out) rfl rfl ?_) | (go_at_call 33; (with_reducible refine (slices_Equal_int_int.calls 12 As cs s A2 c2 n.f2 _ _ ?s1 HSC.out ?s2 HL2.out HEQ.out).mono ?_); (case s1 => exact Kd.C_below HSR.out (below_step HB.out HX.out.bel)); (case s2 => exact Kd.C_below HI2.out HX.out.bel); rintro e w5 ⟨rfl, hd⟩; rw [HDE.out]; have hb := hd.below; clear hd; have hn_ := Aside0.mk (HX.out.next hb); clear HX hb; have HX := hn_; clear hn_; (try clear ci n0 n1 n2 k0 k1); have ci := HX.out.ci; have n0 := HX.out.n0; have n1 := HX.out.n1; have n2 := HX.out.n2; have k0 := HX.out.k0; have k1 := HX.out.k1))
          go_ret
          exact ⟨rfl, below_step HB.out HX.out.bel⟩
    ·have hb0 : ((n.f1.length : Int) == ka) = false := beq_eq_false_iff_ne.mpr ha
     have hb1 : ((n.f1.length : Int) != ka) = true := bne_iff_ne.mpr ha
     obtain rfl : r = false := by
      rw [← HH.out, HA.out]
      simp [gall, gstep, HGK.out, ha]
     clear ha
     go_wp2_with (with_reducible refine wpList_im_hit (o := ⟨_, .lookup 40 _ _ true, _, _, _, _⟩) rfl _ _ rfl Try.underlying40 Try.underlying3 (hz49 _) _ _ HGET.out (HKI.out.below (below_alloc (below_alloc (Below.refl _ _) _) _) HKL.out) rfl rfl ?_)
     go_ret
     exact ⟨rfl, below_alloc (below_alloc (below_alloc HB.out _) _) _⟩
  ·have hke : kk = l0.length := by have := HK.out; omega
   have hbz : decide ((kk : Int) < (l0.length : Int)) = false := decide_eq_false (by omega)
   have hbz2 : decide (kk < l0.length) = false := decide_eq_false hlt
   have hga : gall 0 l0 [] = true := by
    rw [HA.out, hke, List.drop_length]
    rfl
   have HB := Aside0.mk HG.out.bel
   have HGA := Aside0.mk hga
   clear hga hke HA HG hk1 hk2 HK3 HB1 hlt
   by_cases hp : 0 < l0.length
   ·have d1 : decide (0 < (l0.length : Int)) = true := decide_eq_true (by omega)
    have d2 : decide (0 < l0.length) = true := decide_eq_true hp
    by_cases h24 : l0.length ≤ 24
    ·have d3 : decide ((l0.length : Int) ≤ 24) = true := decide_eq_true (by omega)
     have d4 : decide (l0.length ≤ 24) = true := decide_eq_true h24
     obtain rfl : r = true := by rw [← HH.out, HGA.out, d2, d4]; rfl
     clear hp h24
     go_wp2
     go_ret
     exact ⟨rfl, HB.out⟩
    ·have d3 : decide ((l0.length : Int) ≤ 24) = false := decide_eq_false (by omega)
     have d4 : decide (l0.length ≤ 24) = false := decide_eq_false h24
     obtain rfl : r = false := by rw [← HH.out, HGA.out, d2, d4]; rfl
     clear hp h24
     go_wp2
     go_ret
     exact ⟨rfl, HB.out⟩
   ·have d1 : decide (0 < (l0.length : Int)) = false := decide_eq_false (by omega)
    have d2 : decide (0 < l0.length) = false := decide_eq_false hp
    obtain rfl : r = false := by rw [← HH.out, HGA.out, d2]; rfl
    clear hp
    go_wp2
    go_ret
    exact ⟨rfl, HB.out⟩


/-! ### api_Node: function 25 (given) -/
set_option maxHeartbeats 8000000 in
set_option maxRecDepth 100000 in
theorem api_Node.by_ (q : S35 → Bool) (g : Nat) (lb : Array Value) (A0 : Option Addr) (c0 : Nat) (l0 : List (S35)) (w : World) (hr0 : Kd.C k35 w A0 l0.length l0)
    (eg : ∀ args W, (callFunc g args).run Try.prog W = .ok (.enter g args) W)
    (hp : ∀ (W : World) (x : S35) (A1_ : Option Addr) (c1_ : Nat) (A2_ : Option Addr) (c2_ : Nat), x ∈ l0 → Below w.heap.size w W → x.f1.length ≤ c1_ → Kd.C (Kd.int .i64) W A1_ x.f1.length x.f1 → x.f2.length ≤ c2_ → Kd.C (Kd.int .i64) W A2_ x.f2.length x.f2 → Calls Try.prog g (#[.agg #[.int .i64 x.f0, .slice A1_ x.f1.length c1_, .slice A2_ x.f2.length c2_]] ++ lb) W fun e w' => e = .returned (.bool (q x)) ∧ Below W.heap.size W w') :
    Calls Try.prog 25 #[.slice A0 l0.length c0, .func (.func g) #[] lb] w fun e w' => e = .returned (.int .i64 (idxF q 0 l0)) ∧ Below w.heap.size w w' := by
  have HR := Aside0.mk hr0
  have hbig := hr0.2.1
  clear hr0
  go_enter Try.func25, Try.ntmps25
  go_wp2
  go_loopg [5, 8] l0.length (fun gg _ s8 wr => ∃ kk : Nat, kk ≤ l0.length ∧ l0.length - kk ≤ gg ∧ s8 = .int .i64 kk ∧ Aside0 (Below w.heap.size w wr) ∧ Aside0 (∀ (j : Nat) (y : S35), j < kk → l0[j]? = some y → q y = false))
  case atStart => exact ⟨0, Nat.zero_le _, by omega, rfl, ⟨Below.refl _ w⟩, ⟨fun j y hj => absurd hj (Nat.not_lt_zero _)⟩⟩
  case round =>
    obtain ⟨kk, hkk, hg, rfl, BW, AA⟩ := hrel
    by_cases hlt : kk < l0.length
    · have hltz : (kk : Int) < (l0.length : Int) := by omega
      obtain ⟨ad, A1_, c1_, A2_, c2_, rfl, hx0, hx1, hx2, hl1, hi1, hl2, hi2⟩ := at_T35 (Kd.C_below HR.out BW.out) (kk : Int) (by omega) hltz
      have hE := show l0[kk]? = some (rd_T35 l0 (kk : Int)) by simp [rd_T35, hlt]
      have hcall := hp wr (rd_T35 l0 (kk : Int)) A1_ c1_ A2_ c2_ (List.mem_of_getElem? hE) BW.out hl1 hi1 hl2 hi2
      have HE := Aside0.mk hE
      clear hp hE hl1 hi1 hl2 hi2
      (try simp only [Int.toNat_natCast] at hx0 hx1 hx2)
      generalize rd_T35 l0 (kk : Int) = y at hx0 hx1 hx2 hcall HE
      cases hq : q y with
      | true =>
        have HQ := Aside0.mk hq
        rw [hq] at hcall
        have HCALL := Aside0.mk hcall
        clear hq hcall
        go_wp2_with fail
        refine HCALL.out.mono ?_
        rintro e w' ⟨rfl, hb⟩
        have hb' := Aside0.mk hb
        clear hb HCALL
        go_wp2
        go_ret
        refine ⟨?_, below_step BW.out hb'.out⟩
        rw [idxF_hit q l0 0 kk y HE.out HQ.out AA.out, Nat.zero_add]
        rfl
      | false =>
        have HQ := Aside0.mk hq
        rw [hq] at hcall
        have HCALL := Aside0.mk hcall
        clear hq hcall
        go_wp2_with fail
        refine HCALL.out.mono ?_
        rintro e w' ⟨rfl, hb⟩
        have hb' := Aside0.mk hb
        clear hb HCALL
        go_wp2
        go_roundg (l0.length - (kk + 1))
        case measure => omega
        case rel =>
          refine ⟨kk + 1, by omega, by omega, by go_num, ⟨below_step BW.out hb'.out⟩, ⟨fun j z hj hz => ?_⟩⟩
          by_cases e : j = kk
          · subst e
            rw [HE.out] at hz
            cases hz
            exact HQ.out
          · exact AA.out j z (by omega) hz
    · have hltz : ¬ (kk : Int) < (l0.length : Int) := by omega
      have hkl : kk = l0.length := by omega
      have HK := Aside0.mk hkl
      clear hkl
      go_wp2
      go_ret
      refine ⟨?_, BW.out⟩
      rw [idxF_miss q l0 0 (fun j y hy => AA.out j y (by have := (List.getElem?_eq_some_iff.1 hy).1; have := HK.out; omega) hy)]
      rfl

/-! ### slices_Clone_int_int: function 27 (given) -/
def slices_Clone_int_int.f (l0 : List Int) : Option (List Int) := if l0.length < 17592186044416 then some l0 else none
set_option maxHeartbeats 8000000 in
set_option maxRecDepth 100000 in
theorem slices_Clone_int_int.calls (A0 : Option Addr) (c0 : Nat) (l0 : List Int) (r : List Int) (w : World) (hr0 : Kd.C (Kd.int .i64) w A0 l0.length l0) (hc0 : l0.length ≤ c0) (h : slices_Clone_int_int.f l0 = some r) :
    Calls Try.prog 27 #[.slice A0 l0.length c0] w fun e w' => ∃ v0_ : Value, e = .returned (v0_) ∧ Kd.R (Kd.int .i64) 3 w' w.heap.size (fun _ => True) v0_ r ∧ Below w.heap.size w w' := by
  unfold slices_Clone_int_int.f at h
  by_cases hl : l0.length < 17592186044416
  · rw [if_pos hl] at h
    obtain rfl := Option.some.inj h
    have HL := Aside0.mk hl
    have HR0 := Aside0.mk hr0
    have HC0 := Aside0.mk hc0
    have HB := Aside0.mk (Below.refl w.heap.size w)
    clear hl h
    cases A0 with
    | none =>
      have h0 : l0 = [] := by
        by_cases hn : l0 = []
        · exact hn
        · exfalso
          obtain ⟨ad, he, _⟩ := Kd.at_int HR0.out 0 (by omega) (by have := List.length_pos_iff.mpr hn; omega)
          cases he
      subst h0
      clear hr0 hc0
      have hne : ∀ W : World, (binOp .eql 25 (.slice none 0 c0) (.slice none 0 0)).run Try.prog W = .ok (.bool true) W := fun W => Lib.run_eql_slice_nil W 25 3 none 0 c0 0 0 Try.underlying25
      simp only [List.length_nil]
      go_enter Try.func27, Try.ntmps27
      go_wp2
      go_ret
      exact ⟨_, rfl, Kd.R_nil _ _ _ _ _, HB.out⟩
    | some ad =>
      clear hr0 hc0
      have hne : ∀ W : World, (binOp .eql 25 (.slice (some ad) l0.length c0) (.slice none 0 0)).run Try.prog W = .ok (.bool false) W := fun W => Lib.run_eql_slice_nil W 25 3 (some ad) l0.length c0 0 0 Try.underlying25
      obtain ⟨y1, hy1⟩ : ∃ y_ : List Int, y_ = ([] : List Int) := ⟨_, rfl⟩
      have Ny1 := Aside0.mk hy1
      obtain ⟨y2, hy2⟩ : ∃ y_ : List Int, y_ = y1 ++ l0 := ⟨_, rfl⟩
      have Ny2 := Aside0.mk hy2
      have he : y2 = l0 := by rw [hy2, hy1]; rfl
      have HE := Aside0.mk he
      clear hy1 hy2 he
      go_enter Try.func27, Try.ntmps27
      go_wp2_with (first | ((with_reducible refine gate_dst (N := 5) rfl ?_); refine Kd.R_lit (Kd.int .i64) _ 3 ?hg (N := 5) ?hd (xs := ([] : List Int)) (inner := []) (ok := fun _ => True) (okp := fun _ => True) ?hr ?hp (fun _ hk => hk) trivial (Below.refl _ _) (Nat.le_refl _) (by simp) ?_; (case hd => rfl); (case hg => rfl); (case hr => first | (go_simp; done) | (go_simp; rfl)); (case hp => exact (Reps.none _ _)); intro v218 w4 ho5 hb hg_ hnew_; clear hg_ hnew_; rw [← Ny1.out] at ho5; have n0_ := Aside0.mk (Kd.R_lower ho5 (below_size (by repeat (first | (with_reducible first | exact HB.out | apply below_alloc | apply pw_below_drewN | apply below_drew1) | exact HB.out)))); have n1_ := Aside0.mk (below_step (by repeat (first | (with_reducible first | exact HB.out | apply below_alloc | apply pw_below_drewN | apply below_drew1) | exact HB.out)) hb); clear HB; have HO219 := n0_; have HB := n1_; clear n0_ n1_; clear hb ho5) | ((with_reducible refine gate_builtin (b := .append) (xs := #[.tmp 5, .tmp 6]) rfl ?_); at_builtin; refine Kd.R_append_rows (Kd.int .i64) (w0 := w) w.heap.size rfl (.tmp 5) (.tmp 6) 25 3 (.int .i64 0) 8 rfl Try.underlying25 info3 rfl (by decide) (by omega) v218 y1 l0 _ _ _ (fun _ => True) (fun _ => False) rfl rfl ?aO ?aR (fun _ _ h => h) (fun _ h => h.elim) ?aF ?aB ?aS ?aL ?_; (case aR => repeat (first | exact (Kd.C_below HR0.out HB.out) | (with_reducible refine Kd.C_alloc ?_ _) | (with_reducible refine Kd.C_drewN ?_ _) | (with_reducible refine Kd.C_drew ?_))); (case aB => exact (by repeat (first | (with_reducible first | exact HB.out | apply below_alloc | apply pw_below_drewN | apply below_drew1) | exact HB.out))); (case aF => exact (fun _ _ => trivial)); (case aO => exact (by (with_reducible repeat (first | apply Kd.R_alloc | apply Kd.R_drewN | apply Kd.R_drew)); exact HO219.out)); (case aS => exact (below_size (by repeat (first | (with_reducible first | exact HB.out | apply below_alloc | apply pw_below_drewN | apply below_drew1) | exact HB.out)))); (case aL => have := HL.out; have h3 := Ny1.out; rw [h3]; simp; omega); intro v221 w6 ho hb hg hat; rw [← Ny2.out, HE.out] at ho; have n0_ := Aside0.mk (hb); have n1_ := Aside0.mk (ho); clear HB; clear HO219; have HB := n0_; have HO222 := n1_; clear n0_ n1_; clear ho hb hg hat))
      go_ret
      exact ⟨_, rfl, by (with_reducible repeat (first | apply Kd.R_alloc | apply Kd.R_drewN | apply Kd.R_drew)); exact HO222.out, HB.out⟩
  · rw [if_neg hl] at h; cases h


/-! ### graph_Inputs: function 11 (given) -/
set_option maxHeartbeats 8000000 in
set_option maxRecDepth 100000 in
theorem inputs1 (s : Int) (a b : Value) (W : World) :
    Calls Try.prog 26 #[.agg #[.int .i64 s, a, b]] W fun e w' => e = .returned (.bool (s == 1)) ∧ Below W.heap.size W w' := by
  have hu35 := Try.underlying35
  go_enter Try.func26, Try.ntmps26
  go_wp2
  go_ret
  exact ⟨rfl, by first | exact below_alloc (Below.refl _ _) _ | exact Below.refl _ _⟩
/-- Where the first node stands that is what is given; below 0: there is none. -/
def inpAt (l0 : List S35) : Int := idxF (fun v => v.f0 == 1) 0 l0
theorem idxF_ge {α : Type} (q : α → Bool) : ∀ (l : List α) (i : Nat), idxF q i l = -1 ∨ ∃ m : Nat, idxF q i l = (i + m : Nat) ∧ m < l.length
  | [], i => .inl rfl
  | x :: r, i => by
    by_cases h : q x = true
    · exact .inr ⟨0, by simp [idxF, h], by simp⟩
    · rcases idxF_ge q r (i + 1) with e | ⟨m, e, hm⟩
      · exact .inl (by simp only [idxF, if_neg h, e])
      · exact .inr ⟨m + 1, by simp only [idxF, if_neg h, e]; congr 1; omega, by simp; omega⟩
def graph_Inputs.f (l0 : List S35) : Option (List Int × Bool) :=
  if inpAt l0 < 0 then some ([], false) else if gchk l0 = true then (slices_Clone_int_int.f (rd_T35 l0 (inpAt l0)).f2).bind fun r => some (r, true) else some ([], false)
set_option maxHeartbeats 8000000 in
set_option maxRecDepth 100000 in
theorem graph_Inputs.calls (A0 : Option Addr) (c0 : Nat) (l0 : List S35) (r1 : List Int) (r2 : Bool) (w : World) (hr0 : Kd.C k35 w A0 l0.length l0) (hc0 : l0.length ≤ c0) (h : graph_Inputs.f l0 = some (r1, r2)) :
    Calls Try.prog 11 #[.slice A0 l0.length c0] w fun e w' => ∃ v0_ : Value, e = .returned (.tuple #[v0_, .bool r2]) ∧ Kd.R (Kd.int .i64) 3 w' w.heap.size (fun _ => True) v0_ r1 ∧ Below w.heap.size w w' := by
  unfold graph_Inputs.f at h
  have HR := Aside0.mk hr0
  have HC := Aside0.mk hc0
  have hI := idxF_ge (fun v : S35 => v.f0 == 1) l0 0
  have hA : idxF (fun v : S35 => v.f0 == 1) 0 l0 = inpAt l0 := rfl
  rw [hA] at hI
  have HA := Aside0.mk hA
  clear hr0 hc0 hA
  generalize inpAt l0 = i at h hI HA
  by_cases hi : i < 0
  · rw [if_pos hi] at h
    injection h with h
    injection h with h1 h2
    subst h1 h2
    have b0 : decide (i < 0) = true := decide_eq_true hi
    clear hI hi
    go_enter Try.func11, Try.ntmps11
    go_wp2_with (go_at_call 25; (with_reducible refine (api_Node.by_ (fun v => v.f0 == 1) 26 #[] A0 c0 l0 _ ?s1 ?s2 ?s3).mono ?_); (case s1 => exact HR.out); (case s2 => exact enters_ Try.prog Try.func26 (by kernel_rfl) rfl); (case s3 => exact (fun W x A1 c1 A2 c2 _ hb _ _ _ _ => inputs1 x.f0 _ _ W)); rintro e w1 ⟨rfl, hb⟩; rw [HA.out]; have HB := Aside0.mk hb; clear hb)
    go_ret2
    exact ⟨_, rfl, Kd.R_nil _ _ _ _ _, HB.out⟩
  · rw [if_neg hi] at h
    have b0 : decide (i < 0) = false := decide_eq_false hi
    obtain ⟨m, rfl, hm⟩ : ∃ m : Nat, i = (m : Int) ∧ m < l0.length := by
      rcases hI with e | ⟨m, e, hm⟩
      · omega
      · exact ⟨m, by rw [e, Nat.zero_add], hm⟩
    cases hg : gchk l0 with
    | false =>
      rw [hg, if_neg (by decide)] at h
      injection h with h
      injection h with h1 h2
      subst h1 h2
      have HG := Aside0.mk (show graph_Check.f l0 = some false from congrArg some hg)
      clear hI hi hg
      go_enter Try.func11, Try.ntmps11
      go_wp2_with (first | (go_at_call 25; (with_reducible refine (api_Node.by_ (fun v => v.f0 == 1) 26 #[] A0 c0 l0 _ ?s1 ?s2 ?s3).mono ?_); (case s1 => exact HR.out); (case s2 => exact enters_ Try.prog Try.func26 (by kernel_rfl) rfl); (case s3 => exact (fun W x A1 c1 A2 c2 _ hb _ _ _ _ => inputs1 x.f0 _ _ W)); rintro e w1 ⟨rfl, hb⟩; rw [HA.out]; have HB := Aside0.mk hb; clear hb) | (go_at_call 13; refine (graph_Check.calls _ _ l0 false _ (Kd.C_below HR.out HB.out) HC.out HG.out).mono ?_; rintro e w2 ⟨rfl, hb⟩; have HB2 := Aside0.mk (below_step HB.out hb); clear hb))
      go_ret2
      exact ⟨_, rfl, Kd.R_nil _ _ _ _ _, HB2.out⟩
    | true =>
      rw [hg, if_pos rfl] at h
      obtain ⟨r, hr, h⟩ := Option.bind_eq_some_iff.mp h
      injection h with h
      injection h with h1 h2
      subst h1 h2
      have HG := Aside0.mk (show graph_Check.f l0 = some true from congrArg some hg)
      obtain ⟨ad, A1, c1, A2, c2, eA, hx0, hx1, hx2, hl1, hi1, hl2, hi2⟩ := at_T35 HR.out (m : Int) (by omega) (by omega)
      obtain ⟨q, hq⟩ : ∃ q, q = (rd_T35 l0 (m : Int)).f2 := ⟨_, rfl⟩
      rw [← hq] at hx2 hl2 hi2 hr
      simp only [Int.toNat_natCast] at hx2
      have HCL := Aside0.mk hr
      have HI2 := Aside0.mk hi2
      have HX2 := Aside0.mk hx2
      have HL2 := Aside0.mk hl2
      have p0 : (0 ≤ (m : Int)) = True := eq_true (by omega)
      have p1 : ((m : Int) < (l0.length : Int)) = True := eq_true (by omega)
      subst eA
      clear hI hi hg hr hx0 hx1 hx2 hl1 hi1 hl2 hi2 hq hm
      go_enter Try.func11, Try.ntmps11
      go_wp2_with (first | (go_at_call 25; (with_reducible refine (api_Node.by_ (fun v => v.f0 == 1) 26 #[] (some ad) c0 l0 _ ?s1 ?s2 ?s3).mono ?_); (case s1 => exact HR.out); (case s2 => exact enters_ Try.prog Try.func26 (by kernel_rfl) rfl); (case s3 => exact (fun W x A1 c1 A2 c2 _ hb _ _ _ _ => inputs1 x.f0 _ _ W)); rintro e w1 ⟨rfl, hb⟩; rw [HA.out]; have HB := Aside0.mk hb; clear hb) | (go_at_call 13; refine (graph_Check.calls _ _ l0 true _ (Kd.C_below HR.out HB.out) HC.out HG.out).mono ?_; rintro e w2 ⟨rfl, hb⟩; have HB2 := Aside0.mk (below_step HB.out hb); have hxx := pw_cell_below HB2.out HX2.out; clear hb) | (go_at_call 27; refine (slices_Clone_int_int.calls A2 c2 q r _ (Kd.C_below HI2.out HB2.out) HL2.out HCL.out).mono ?_; rintro e w3 ⟨v3, rfl, hR, hb⟩; have HR3 := Aside0.mk hR; have HB3 := Aside0.mk hb; clear hR hb))
      go_ret2
      exact ⟨_, rfl, Kd.R_lower HR3.out HB2.out.size, below_step HB2.out HB3.out⟩


/-! ### graph_Arity: function 15 (given) -/
/-- Of how many nodes something is reckoned. -/
def aritV (op : Int) : Int := match gkind op with
  | some kd => kd.1
  | none => -1
def graph_Arity.f (op : Int) : Option Int := some (aritV op)
set_option maxHeartbeats 8000000 in
set_option maxRecDepth 100000 in
theorem graph_Arity.calls (a0 : Int) (r : Int) (w : World) (h : graph_Arity.f a0 = some r) : Calls Try.prog 15 #[.int .i64 a0] w fun e w' => e = .returned (.int .i64 r) ∧ Below w.heap.size w w' := by
  obtain rfl := Option.some.inj h
  clear h
  have hz49 : ∀ W : World, (zeroValue 44).run Try.prog W = .ok (.agg #[.int .i64 0, .int .i64 0]) W := fun W => by kernel_rfl
  have hget := kindGet a0
  cases hg : gkind a0 with
  | none =>
    rw [hg] at hget
    have HGET := Aside0.mk hget
    have e : aritV a0 = -1 := by unfold aritV; rw [hg]
    rw [e]
    clear hg hget e
    go_enter Try.func15, Try.ntmps15
    go_wp2_with fail
    refine (graph_kinds.calls _).mono ?_
    rintro e w1 ⟨bk, rfl, hbk, hlt, hki, hb1⟩
    have HKI := Aside0.mk hki
    have HB := Aside0.mk hb1
    clear hki hb1
    go_wp2_with (with_reducible refine wpList_im_miss (o := ⟨_, .lookup 40 _ _ true, _, _, _, _⟩) rfl _ _ rfl Try.underlying40 Try.underlying3 (hz49 _) _ HGET.out HKI.out rfl rfl ?_)
    go_ret
    exact ⟨rfl, below_alloc HB.out _⟩
  | some kd =>
    obtain ⟨ka, kn⟩ := kd
    rw [hg] at hget
    have HGET := Aside0.mk hget
    have e : aritV a0 = ka := by unfold aritV; rw [hg]
    rw [e]
    clear hg hget e
    go_enter Try.func15, Try.ntmps15
    go_wp2_with fail
    refine (graph_kinds.calls _).mono ?_
    rintro e w1 ⟨bk, rfl, hbk, hlt, hki, hb1⟩
    have HKI := Aside0.mk hki
    have HB := Aside0.mk hb1
    clear hki hb1
    go_wp2_with (with_reducible refine wpList_im_hit (o := ⟨_, .lookup 40 _ _ true, _, _, _, _⟩) rfl _ _ rfl Try.underlying40 Try.underlying3 (hz49 _) _ _ HGET.out HKI.out rfl rfl ?_)
    go_ret
    exact ⟨rfl, below_alloc HB.out _⟩


end Go.Proofs.Ytklnbfdoklcmfaa.A
