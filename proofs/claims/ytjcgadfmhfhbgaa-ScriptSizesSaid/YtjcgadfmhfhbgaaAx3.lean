/- Lean functions that answer as the Go functions do, and the proofs that they do; no conditions. Written by this session's own driver: a scratch copy of the kit's print with the session's additions (wip/xprint). -/
import Derived.Test.YtjcgadfmhfhbgaaAx0
import Derived.Test.YtjcgadfmhfhbgaaAx2
namespace Go.Proofs.Ytjcgadfmhfhbgaa.A
open Go.RowKit Go.Proofs.YtjcgadfmhfhbgaaW.PrintWords Go.Proofs.YtjcgadfmhfhbgaaW.PrintLast Go.Proofs.YtjcgadfmhfhbgaaW.PrintMore
attribute [local go_sem] max2_int min2_int max_two min_two max_three min_three max_four min_four
set_option linter.unusedVariables false
set_option linter.unusedSimpArgs false
theorem gc_shape0 (l : List Int) (d : Nat) : ∀ (k : Nat) (x : Int) (i : Nat), l.length - i = d → i ≤ l.length → l.length ≤ 3 → d < k → ∃ r, shape_Check.l0 k x l (l.length : Int) (i : Int) = some r := by
 induction d with
 | zero =>
  intro k x i hd hi h3 hk
  obtain ⟨k, rfl⟩ : ∃ q, k = q + 1 := ⟨k - 1, by omega⟩
  rw [shape_Check.l0, if_neg (by omega)]
  split <;> exact ⟨_, rfl⟩
 | succ d ih =>
  intro k x i hd hi h3 hk
  obtain ⟨k, rfl⟩ : ∃ q, k = q + 1 := ⟨k - 1, by omega⟩
  rw [shape_Check.l0, if_pos (by omega), if_pos (by omega), if_pos (by omega)]
  split
  ·exact ⟨_, rfl⟩
  ·split
   ·exact ⟨_, rfl⟩
   ·have e : wrap64 ((i : Int) + 1) = ((i + 1 : Nat) : Int) := by unfold wrap64; omega
    rw [e]
    exact ih k _ (i + 1) (by omega) (by omega) h3 (by omega)
theorem gc_shape (l : List Int) : ∃ r, shape_Check.f 8 l = some r := by
 unfold shape_Check.f
 split
 ·exact ⟨_, rfl⟩
 ·exact gc_shape0 l l.length 8 1 0 (by omega) (by omega) (by omega) (by omega)
theorem gc_shape_len {l : List Int} (h : shape_Check.f 8 l = some true) : l.length ≤ 3 := by
 unfold shape_Check.f at h
 split at h
 ·cases h
 ·omega
def gkind (op : Int) : Option (Int × Int) := (kindL.find? (fun p => decide (op = p.1))).map (·.2)
def wellB (n : S48) (kd : Int × Int) : Bool := (graph_well.f 8 n.f0 n.f1 n.f2 kd.1 kd.2).getD false
theorem well_some (n : S48) (kd : Int × Int) : graph_well.f 8 n.f0 n.f1 n.f2 kd.1 kd.2 = some (wellB n kd) := by
 have : ∃ r, graph_well.f 8 n.f0 n.f1 n.f2 kd.1 kd.2 = some r := by
  unfold graph_well.f
  split
  ·split
   ·exact ⟨_, rfl⟩
   ·rw [if_pos (by omega)]
    split
    ·exact ⟨_, rfl⟩
    ·split
     ·exact ⟨_, rfl⟩
     ·rw [if_pos (by omega)]
      obtain ⟨r, hr⟩ := gc_shape (n.f2.drop 1)
      rw [hr]
      exact ⟨_, rfl⟩
  ·split
   ·obtain ⟨r, hr⟩ := gc_shape n.f2
    rw [hr]
    exact ⟨_, rfl⟩
   ·exact ⟨_, rfl⟩
 obtain ⟨r, hr⟩ := this
 rw [wellB, hr]
 rfl
theorem gkind_mem {op : Int} {kd : Int × Int} (h : gkind op = some kd) : (op, kd) ∈ kindL := by
 unfold gkind at h
 obtain ⟨p, hp, rfl⟩ := Option.map_eq_some_iff.1 h
 have h1 := List.mem_of_find?_eq_some hp
 have h2 := List.find?_some hp
 simp only [decide_eq_true_eq] at h2
 subst h2
 exact h1
theorem kinds_le {op : Int} {kd : Int × Int} (h : gkind op = some kd) : kd.2 ≤ 3 := by
 have : ∀ p ∈ kindL, p.2.2 ≤ 3 := by decide
 exact this _ (gkind_mem h)
theorem well_len {n : S48} {kd : Int × Int} (hk : kd.2 ≤ 3) (h : wellB n kd = true) : n.f2.length ≤ 4 := by
 have hs := well_some n kd
 rw [h] at hs
 unfold graph_well.f at hs
 split at hs
 ·split at hs
  ·cases hs
  ·rw [if_pos (by omega)] at hs
   split at hs
   ·cases hs
   ·split at hs
    ·cases hs
    ·rw [if_pos (by omega)] at hs
     obtain ⟨r, hr⟩ := gc_shape (n.f2.drop 1)
     rw [hr] at hs
     have hs : some r = some true := hs
     cases hs
     have := gc_shape_len hr
     simp at this
     omega
 ·split at hs
  ·obtain ⟨r, hr⟩ := gc_shape n.f2
   rw [hr] at hs
   have hs : some r = some true := hs
   cases hs
   have := gc_shape_len hr
   omega
  ·simp at hs
   omega
theorem gc_eq0 (x y : List Int) (hl : x.length = y.length) (hm : x.length ≤ 10) (d : Nat) : ∀ (k i : Nat), x.length - i = d → i ≤ x.length → d < k →
  slices_Equal_int_int.l0 k x y (x.length : Int) (i : Int) = some (decide (x.drop i = y.drop i)) := by
 induction d with
 | zero =>
  intro k i hd hi hk
  obtain ⟨k, rfl⟩ : ∃ q, k = q + 1 := ⟨k - 1, by omega⟩
  rw [slices_Equal_int_int.l0, if_neg (by omega), List.drop_eq_nil_of_le (by omega), List.drop_eq_nil_of_le (by omega)]
  simp
 | succ d ih =>
  intro k i hd hi hk
  obtain ⟨k, rfl⟩ : ∃ q, k = q + 1 := ⟨k - 1, by omega⟩
  have hx : i < x.length := by omega
  have hy : i < y.length := by omega
  have ex : rd x (i : Int) = x[i] := by simp [rd, hx]
  have ey : rd y (i : Int) = y[i] := by simp [rd, hy]
  rw [slices_Equal_int_int.l0, if_pos (by omega), if_pos (by omega), if_pos (by omega), if_pos (by omega), ex, ey, List.drop_eq_getElem_cons hx, List.drop_eq_getElem_cons hy]
  by_cases c : x[i] = y[i]
  ·have ih' := ih k (i + 1) (by omega) (by omega) (by omega)
   have e : wrap64 ((i : Int) + 1) = ((i + 1 : Nat) : Int) := by unfold wrap64; omega
   rw [if_pos c, e, ih']
   simp only [c, List.cons.injEq, true_and]
  ·rw [if_neg c]
   simp only [List.cons.injEq, c, false_and, decide_false]
theorem gc_eq (x y : List Int) (hm : y.length ≤ 10) : slices_Equal_int_int.f 12 x y = some (decide (x = y)) := by
 unfold slices_Equal_int_int.f
 by_cases h : x.length = y.length
 ·rw [if_pos (by omega)]
  have := gc_eq0 x y h (by omega) x.length 12 0 (by omega) (by omega) (by omega)
  simpa using this
 ·rw [if_neg (by omega)]
  have : x ≠ y := fun e => h (by rw [e])
  simp [this]
def shGet (k : Int) : List (Int × List Int) → Option (List Int)
 | [] => none
 | p :: r => if k = p.1 then some p.2 else shGet k r
def shPut (k : Int) (v : List Int) : List (Int × List Int) → List (Int × List Int)
 | [] => [(k, v)]
 | p :: r => if k = p.1 then (k, v) :: r else p :: shPut k v r
def gseen (at_ : Int) (s : List Int) (sh : List (Int × List Int)) : Option (List (Int × List Int)) :=
 match shGet at_ sh with
 | some o => if o = s then some (shPut at_ s sh) else none
 | none => some (shPut at_ s sh)
def gahead (i a : Int) : Bool := decide (a < 0) || decide (i ≤ a)
def gstep (i : Int) (n : S48) (sh : List (Int × List Int)) : Option (List (Int × List Int)) :=
 match gkind n.f0 with
 | none => none
 | some kd => if (n.f1.length : Int) = kd.1 ∧ wellB n kd = true ∧ n.f1.any (gahead i) = false then
   (if n.f0 = 1 then gseen (-1) n.f2 sh else if n.f0 = 2 then gseen (rd n.f2 0) n.f2 sh else some sh) else none
def gall : Int → List S48 → List (Int × List Int) → Bool
 | _, [], _ => true
 | i, n :: r, sh => match gstep i n sh with
  | none => false
  | some sh' => gall (i + 1) r sh'
def gchk (l0 : List S48) : Bool := gall 0 l0 [] && decide (0 < l0.length) && decide (l0.length ≤ 24)
def graph_Check.f (l0 : List S48) : Option Bool := some (gchk l0)
def ShR (w : World) : List (Int × Value) → List (Int × List Int) → Prop
 | [], [] => True
 | p :: es, q :: sh => p.1 = q.1 ∧ (∃ A c, p.2 = .slice A q.2.length c ∧ q.2.length ≤ c ∧ Kd.C (Kd.int .i64) w A q.2.length q.2) ∧ ShR w es sh
 | _, _ => False
theorem ShR.get {w : World} (k : Int) : ∀ {es : List (Int × Value)} {sh : List (Int × List Int)}, ShR w es sh →
  (imGet k es = none ∧ shGet k sh = none) ∨ ∃ A c s, imGet k es = some (.slice A s.length c) ∧ shGet k sh = some s ∧ s.length ≤ c ∧ Kd.C (Kd.int .i64) w A s.length s
 | [], [], _ => .inl ⟨rfl, rfl⟩
 | p :: es, q :: sh, h => by
  obtain ⟨h1, ⟨A, c, h2, h3, h4⟩, h5⟩ := h
  by_cases hk : k = p.1
  ·exact .inr ⟨A, c, q.2, by rw [imGet, if_pos hk, h2], by rw [shGet, if_pos (hk.trans h1)], h3, h4⟩
  ·rw [imGet, if_neg hk, shGet, if_neg (by rw [← h1]; exact hk)]
   exact ShR.get k h5
 | [], _ :: _, h => h.elim
 | _ :: _, [], h => h.elim
theorem ShR.put {w : World} (k : Int) {A : Option Addr} {c : Nat} {s : List Int} (hc : s.length ≤ c) (hr : Kd.C (Kd.int .i64) w A s.length s) : ∀ {es : List (Int × Value)} {sh : List (Int × List Int)}, ShR w es sh →
  ShR w (imPut k (.slice A s.length c) es) (shPut k s sh)
 | [], [], _ => ⟨rfl, ⟨A, c, rfl, hc, hr⟩, trivial⟩
 | p :: es, q :: sh, h => by
  obtain ⟨h1, h2, h5⟩ := h
  by_cases hk : k = p.1
  ·rw [imPut, if_pos hk, shPut, if_pos (hk.trans h1)]
   exact ⟨rfl, ⟨A, c, rfl, hc, hr⟩, h5⟩
  ·rw [imPut, if_neg hk, shPut, if_neg (by rw [← h1]; exact hk)]
   exact ⟨h1, h2, ShR.put k hc hr h5⟩
 | [], _ :: _, h => h.elim
 | _ :: _, [], h => h.elim
theorem kindGet (op : Int) : imGet op (kindV kindL) = (gkind op).map fun p => Value.agg #[.int .i64 p.1, .int .i64 p.2] := by
 have key : ∀ l : List (Int × (Int × Int)), imGet op (kindV l) = ((l.find? (fun p => decide (op = p.1))).map (·.2)).map fun p => Value.agg #[.int .i64 p.1, .int .i64 p.2] := by
  intro l
  induction l with
  | nil => rfl
  | cons p r ih =>
   by_cases h : op = p.1
   ·simp [kindV, imGet, h]
   ·simp only [kindV, List.map_cons, imGet, if_neg h]
    rw [show imGet op (List.map (fun p => (p.1, Value.agg #[.int .i64 p.2.1, .int .i64 p.2.2])) r) = imGet op (kindV r) from rfl, ih, List.find?_cons_of_neg (by simpa using h)]
 exact key kindL
set_option maxHeartbeats 8000000 in
set_option maxRecDepth 100000 in
theorem ahead_calls (a i : Int) (p : Addr) (W : World) (hc : W.cell? p = some (.int .i64 i)) :
  Calls Try.prog 54 #[.int .i64 a, .pointer (some p)] W fun e w' => e = .returned (.bool (gahead i a)) ∧ Below W.heap.size W w' := by
 by_cases h0 : a < 0
 ·have b0 : decide (a < 0) = true := decide_eq_true h0
  have hr : gahead i a = true := by simp [gahead, h0]
  rw [hr]
  clear h0 hr
  go_enter Try.func54, Try.ntmps54
  go_wp2
  go_ret
  exact ⟨rfl, Below.refl _ _⟩
 ·have b0 : decide (a < 0) = false := decide_eq_false h0
  have hr : gahead i a = decide (i ≤ a) := by simp [gahead, h0]
  rw [hr]
  clear h0 hr
  go_enter Try.func54, Try.ntmps54
  go_wp2
  go_ret
  exact ⟨rfl, Below.refl _ _⟩
theorem name_cases {n : S48} {kd : Int × Int} (hk : gkind n.f0 = some kd) (hw : wellB n kd = true) :
  (graph_name.f n.f0 n.f1 n.f2 = some (0, false) ∧ ∀ sh, (if n.f0 = 1 then gseen (-1) n.f2 sh else if n.f0 = 2 then gseen (rd n.f2 0) n.f2 sh else some sh) = some sh) ∨
  ∃ at_, graph_name.f n.f0 n.f1 n.f2 = some (at_, true) ∧ ∀ sh, (if n.f0 = 1 then gseen (-1) n.f2 sh else if n.f0 = 2 then gseen (rd n.f2 0) n.f2 sh else some sh) = gseen at_ n.f2 sh := by
 unfold graph_name.f
 by_cases h1 : n.f0 = 1
 ·rw [if_pos h1]
  exact .inr ⟨-1, rfl, fun sh => by rw [if_pos h1]⟩
 ·rw [if_neg h1]
  by_cases h2 : n.f0 = 2
  ·rw [if_pos h2]
   have hk2 : kd = (0, -2) := by
    rw [h2] at hk
    have : gkind 2 = some (0, -2) := by decide
    rw [this] at hk
    injection hk with hk
    exact hk.symm
   have hpos : 0 < (n.f2.length : Int) := by
    have hs := well_some n kd
    rw [hw, hk2] at hs
    unfold graph_well.f at hs
    rw [if_pos rfl] at hs
    split at hs
    ·cases hs
    ·omega
   rw [if_pos hpos]
   exact .inr ⟨_, rfl, fun sh => by rw [if_neg h1, if_pos h2]⟩
  ·rw [if_neg h2]
   exact .inl ⟨rfl, fun sh => by rw [if_neg h1, if_neg h2]⟩
structure GBox (wr W : World) (i x0 : Int) (v1 v2 : Value) (ka kn : Int) : Prop where
 bel : Below wr.heap.size wr W
 size : wr.heap.size + 3 ≤ W.heap.size
 ci : W.cell? ⟨wr.heap.size, 0, none⟩ = some (.int .i64 i)
 n0 : W.cell? ⟨wr.heap.size + 1, 0, none⟩ = some (.int .i64 x0)
 n1 : W.cell? ⟨wr.heap.size + 1, 1, none⟩ = some v1
 n2 : W.cell? ⟨wr.heap.size + 1, 2, none⟩ = some v2
 k0 : W.cell? ⟨wr.heap.size + 1 + 1, 0, none⟩ = some (.int .i64 ka)
 k1 : W.cell? ⟨wr.heap.size + 1 + 1, 1, none⟩ = some (.int .i64 kn)
theorem GBox.next {wr W W' : World} {i x0 : Int} {v1 v2 : Value} {ka kn : Int} (h : GBox wr W i x0 v1 v2 ka kn) (hb : Below W.heap.size W W') : GBox wr W' i x0 v1 v2 ka kn :=
 have hs := h.size
 ⟨below_step h.bel hb, Nat.le_trans hs hb.size, pw_cell_below hb h.ci, pw_cell_below hb h.n0, pw_cell_below hb h.n1, pw_cell_below hb h.n2, pw_cell_below hb h.k0, pw_cell_below hb h.k1⟩
theorem GBox.start (wr : World) (i x0 : Int) (v1 v2 : Value) (ka kn : Int) (t u v : TypeId) :
  GBox wr (((wr.alloc (.cells #[.int .i64 i] t)).alloc (.cells #[.int .i64 x0, v1, v2] u)).alloc (.cells #[.int .i64 ka, .int .i64 kn] v)) i x0 v1 v2 ka kn := by
 refine ⟨below_alloc (below_alloc (below_alloc (Below.refl _ _) _) _) _, by simp, ?_, ?_, ?_, ?_, ?_, ?_⟩
 ·rw [World.cell?_alloc_past _ _ _ (by simp; omega), World.cell?_alloc_past _ _ _ (by simp), World.cell?_alloc_at _ _ _ _ rfl]; rfl
 ·rw [World.cell?_alloc_past _ _ _ (by simp), World.cell?_alloc_at _ _ _ _ (by simp)]; rfl
 ·rw [World.cell?_alloc_past _ _ _ (by simp), World.cell?_alloc_at _ _ _ _ (by simp)]; rfl
 ·rw [World.cell?_alloc_past _ _ _ (by simp), World.cell?_alloc_at _ _ _ _ (by simp)]; rfl
 ·rw [World.cell?_alloc_at _ _ _ _ (by simp)]; rfl
 ·rw [World.cell?_alloc_at _ _ _ _ (by simp)]; rfl
structure GInv (w : World) (bk : Nat) (n1 : Nat) (wr : World) (es : List (Int × Value)) (sh : List (Int × List Int)) : Prop where
 bel : Below w.heap.size w wr
 size : w.heap.size ≤ bk ∧ bk < n1 ∧ n1 < wr.heap.size
 kinds : IM wr bk (kindV kindL)
 im : IM wr n1 es
 sh : ShR w es sh
set_option maxHeartbeats 8000000 in
set_option maxRecDepth 100000 in
theorem graph_Check.calls (A0 : Option Addr) (c0 : Nat) (l0 : List S48) (r : Bool) (w : World) (hr0 : Kd.C k48 w A0 l0.length l0) (hc0 : l0.length ≤ c0) (h : graph_Check.f l0 = some r) :
  Calls Try.prog 30 #[.slice A0 l0.length c0] w fun e w' => e = .returned (.bool r) ∧ Below w.heap.size w w' := by
 unfold graph_Check.f at h
 replace h := Option.some.inj h
 unfold gchk at h
 have HR := Aside0.mk hr0
 have HH := Aside0.mk h
 have hbig := hr0.2.1
 have hmm := @run_makeMap Try.prog
 clear hr0 h hc0
 go_enter Try.func30, Try.ntmps30
 go_wp2_with (go_at_call 53; (with_reducible refine (graph_kinds.calls _).mono ?_); rintro e w1 ⟨bk, rfl, hk1, hk2, hk3, hb1⟩; have HK3 := Aside0.mk hk3; have HB1 := Aside0.mk hb1; clear hk3 hb1)
 have HI : Aside0 (GInv w bk w1.heap.size (w1.alloc (.map #[] 0)) [] []) := ⟨below_alloc HB1.out _, ⟨hk1, hk2, by simp⟩, HK3.out.below (B := w1.heap.size) ((Below.refl _ _).alloc (Nat.le_refl _) _) hk2, IM.made w1, trivial⟩
 have hz49 : ∀ W : World, (zeroValue 90).run Try.prog W = .ok (.agg #[.int .i64 0, .int .i64 0]) W := fun W => by kernel_rfl
 have hz34 : ∀ W : World, (zeroValue 24).run Try.prog W = .ok (.slice none 0 0) W := fun W => by kernel_rfl
 go_loopg [18] l0.length (fun gg s18 wr => ∃ (kk : Nat) (es : List (Int × Value)) (sh : List (Int × List Int)), s18 = .int .i64 kk ∧ Aside0 (kk ≤ l0.length ∧ l0.length - kk ≤ gg) ∧ Aside0 (GInv w bk w1.heap.size wr es sh) ∧ Aside0 (gall 0 l0 [] = gall kk (l0.drop kk) sh))
 case atStart => exact ⟨0, [], [], rfl, ⟨Nat.zero_le _, by omega⟩, HI, ⟨rfl⟩⟩
 case round =>
  obtain ⟨kk, es, sh, rfl, HK, HG, HA⟩ := hrel
  clear HI
  by_cases hlt : kk < l0.length
  ·have hltz : (kk : Int) < (l0.length : Int) := by omega
   have hbz : decide ((kk : Int) < (l0.length : Int)) = true := decide_eq_true hltz
   obtain ⟨ad, A1, c1, A2, c2, eA, hx0, hx1, hx2, hl1, hi1, hl2, hi2⟩ := at_T48 HR.out (kk : Int) (by omega) hltz
   replace hx0 := pw_cell_below HG.out.bel hx0
   replace hx1 := pw_cell_below HG.out.bel hx1
   replace hx2 := pw_cell_below HG.out.bel hx2
   simp only [Int.toNat_natCast] at hx0 hx1 hx2
   obtain ⟨n, hn⟩ : ∃ n, n = rd_T48 l0 (kk : Int) := ⟨_, rfl⟩
   have hd : l0.drop kk = n :: l0.drop (kk + 1) := by
    rw [List.drop_eq_getElem_cons hlt, hn]
    simp [rd_T48, hlt]
   rw [← hn] at hx0 hx1 hx2 hl1 hi1 hl2 hi2
   subst eA
   have HB := Aside0.mk HG.out.bel
   have HS := Aside0.mk HG.out.size
   have HKI := Aside0.mk HG.out.kinds
   have HIM := Aside0.mk HG.out.im
   have HSH := Aside0.mk HG.out.sh
   rw [hd] at HA
   have HI1 := Aside0.mk (Kd.C_below hi1 HB.out)
   have HI2 := Aside0.mk (Kd.C_below hi2 HB.out)
   have HI2w := Aside0.mk hi2
   have HL1 := Aside0.mk hl1
   have HL2 := Aside0.mk hl2
   have HKL := Aside0.mk (show bk < wr.heap.size by have := HG.out.size; omega)
   clear hd hn hi1 hi2 hl1 hl2 HG hk1 hk2 HK3 HB1
   cases hg : gkind n.f0 with
   | none =>
    have hget := kindGet n.f0
    rw [hg] at hget
    have HGET := Aside0.mk hget
    obtain rfl : r = false := by
     rw [← HH.out, HA.out]
     simp [gall, gstep, hg]
    clear hg hget
    go_wp2_with (with_reducible refine wpList_im_miss (o := ⟨_, .lookup 86 _ _ true, _, _, _, _⟩) rfl _ _ rfl Try.underlying86 Try.underlying3 (hz49 _) _ HGET.out (HKI.out.below (below_alloc (below_alloc (Below.refl _ _) _) _) HKL.out) rfl rfl ?_)
    go_ret
    exact ⟨rfl, below_alloc (below_alloc (below_alloc HB.out _) _) _⟩
   | some kd =>
    obtain ⟨ka, kn⟩ := kd
    have hget := kindGet n.f0
    rw [hg] at hget
    have HGET := Aside0.mk hget
    have HGK := Aside0.mk hg
    have HW := Aside0.mk (well_some n (ka, kn))
    clear hg hget
    by_cases ha : (n.f1.length : Int) = ka
    ·have hb0 : ((n.f1.length : Int) == ka) = true := beq_iff_eq.mpr ha
     have hb1 : ((n.f1.length : Int) != ka) = false := bne_eq_false_iff_eq.mpr ha
     have HLA := Aside0.mk ha
     clear ha
     have HX := Aside0.mk (GBox.start wr kk n.f0 (.slice A1 n.f1.length c1) (.slice A2 n.f2.length c2) ka kn 3 48 90)
     cases hw : wellB n (ka, kn) with
     | false =>
      rw [hw] at HW
      obtain rfl : r = false := by
       rw [← HH.out, HA.out]
       simp [gall, gstep, HGK.out, hw]
      clear hw
      go_wp2_with (first | (with_reducible refine wpList_im_hit (o := ⟨_, .lookup 86 _ _ true, _, _, _, _⟩) rfl _ _ rfl Try.underlying86 Try.underlying3 (hz49 _) _ _ HGET.out (HKI.out.below (below_alloc (below_alloc (Below.refl _ _) _) _) HKL.out) rfl rfl ?_) | (go_at_call 55; (with_reducible refine (graph_well.calls 8 n.f0 A1 c1 n.f1 A2 c2 n.f2 ka kn _ _ ?s1 HL1.out ?s2 HL2.out HW.out).mono ?_); (case s1 => exact Kd.C_below HI1.out HX.out.bel); (case s2 => exact Kd.C_below HI2.out HX.out.bel); rintro e w2 ⟨rfl, hb⟩; have hn_ := Aside0.mk (HX.out.next hb); clear HX hb; have HX := hn_; clear hn_; (try clear ci n0 n1 n2 k0 k1); have ci := HX.out.ci; have n0 := HX.out.n0; have n1 := HX.out.n1; have n2 := HX.out.n2; have k0 := HX.out.k0; have k1 := HX.out.k1))
      go_ret
      exact ⟨rfl, below_step HB.out HX.out.bel⟩
     | true =>
      rw [hw] at HW
      have HWT := Aside0.mk hw
      clear hw
      cases hany : n.f1.any (gahead kk) with
      | true =>
       obtain rfl : r = false := by
        rw [← HH.out, HA.out]
        simp [gall, gstep, HGK.out, hany]
       have HANY := Aside0.mk hany
       clear hany
       go_wp2_with (first | (with_reducible refine wpList_im_hit (o := ⟨_, .lookup 86 _ _ true, _, _, _, _⟩) rfl _ _ rfl Try.underlying86 Try.underlying3 (hz49 _) _ _ HGET.out (HKI.out.below (below_alloc (below_alloc (Below.refl _ _) _) _) HKL.out) rfl rfl ?_) | (go_at_call 55; (with_reducible refine (graph_well.calls 8 n.f0 A1 c1 n.f1 A2 c2 n.f2 ka kn _ _ ?s1 HL1.out ?s2 HL2.out HW.out).mono ?_); (case s1 => exact Kd.C_below HI1.out HX.out.bel); (case s2 => exact Kd.C_below HI2.out HX.out.bel); rintro e w2 ⟨rfl, hb⟩; have hn_ := Aside0.mk (HX.out.next hb); clear HX hb; have HX := hn_; clear hn_; (try clear ci n0 n1 n2 k0 k1); have ci := HX.out.ci; have n0 := HX.out.n0; have n1 := HX.out.n1; have n2 := HX.out.n2; have k0 := HX.out.k0; have k1 := HX.out.k1) | (go_at_call 56; (with_reducible refine (slices_ContainsFunc_int_int.by_ (gahead kk) 54 #[.pointer (some ⟨wr.heap.size, 0, none⟩)] A1 c1 n.f1 _ ?s1 ?s2 ?s3).mono ?_); (case s1 => exact Kd.C_below HI1.out HX.out.bel); (case s2 => exact enters_ Try.prog Try.func54 (by kernel_rfl) rfl); (case s3 => exact fun W x _ hb => ahead_calls x kk ⟨wr.heap.size, 0, none⟩ W (pw_cell_below hb HX.out.ci)); rintro e w3 ⟨rfl, hb⟩; rw [HANY.out]; have hn_ := Aside0.mk (HX.out.next hb); clear HX hb; have HX := hn_; clear hn_; (try clear ci n0 n1 n2 k0 k1); have ci := HX.out.ci; have n0 := HX.out.n0; have n1 := HX.out.n1; have n2 := HX.out.n2; have k0 := HX.out.k0; have k1 := HX.out.k1))
       go_ret
       exact ⟨rfl, below_step HB.out HX.out.bel⟩
      | false =>
       have HANY := Aside0.mk hany
       have HNL := Aside0.mk (show w1.heap.size < wr.heap.size from HS.out.2.2)
       clear hany
       rcases name_cases HGK.out HWT.out with ⟨hn, hnm⟩ | ⟨at_, hn, hnm⟩
       ·have HN := Aside0.mk hn
        have HNM := Aside0.mk hnm
        clear hn hnm
        go_wp2_with (first | (with_reducible refine wpList_im_hit (o := ⟨_, .lookup 86 _ _ true, _, _, _, _⟩) rfl _ _ rfl Try.underlying86 Try.underlying3 (hz49 _) _ _ HGET.out (HKI.out.below (below_alloc (below_alloc (Below.refl _ _) _) _) HKL.out) rfl rfl ?_) | (go_at_call 55; (with_reducible refine (graph_well.calls 8 n.f0 A1 c1 n.f1 A2 c2 n.f2 ka kn _ _ ?s1 HL1.out ?s2 HL2.out HW.out).mono ?_); (case s1 => exact Kd.C_below HI1.out HX.out.bel); (case s2 => exact Kd.C_below HI2.out HX.out.bel); rintro e w2 ⟨rfl, hb⟩; have hn_ := Aside0.mk (HX.out.next hb); clear HX hb; have HX := hn_; clear hn_; (try clear ci n0 n1 n2 k0 k1); have ci := HX.out.ci; have n0 := HX.out.n0; have n1 := HX.out.n1; have n2 := HX.out.n2; have k0 := HX.out.k0; have k1 := HX.out.k1) | (go_at_call 56; (with_reducible refine (slices_ContainsFunc_int_int.by_ (gahead kk) 54 #[.pointer (some ⟨wr.heap.size, 0, none⟩)] A1 c1 n.f1 _ ?s1 ?s2 ?s3).mono ?_); (case s1 => exact Kd.C_below HI1.out HX.out.bel); (case s2 => exact enters_ Try.prog Try.func54 (by kernel_rfl) rfl); (case s3 => exact fun W x _ hb => ahead_calls x kk ⟨wr.heap.size, 0, none⟩ W (pw_cell_below hb HX.out.ci)); rintro e w3 ⟨rfl, hb⟩; rw [HANY.out]; have hn_ := Aside0.mk (HX.out.next hb); clear HX hb; have HX := hn_; clear hn_; (try clear ci n0 n1 n2 k0 k1); have ci := HX.out.ci; have n0 := HX.out.n0; have n1 := HX.out.n1; have n2 := HX.out.n2; have k0 := HX.out.k0; have k1 := HX.out.k1) | (go_at_call 57; (with_reducible refine (graph_name.calls n.f0 A1 c1 n.f1 A2 c2 n.f2 _ _ _ ?s1 HL1.out ?s2 HL2.out HN.out).mono ?_); (case s1 => exact Kd.C_below HI1.out HX.out.bel); (case s2 => exact Kd.C_below HI2.out HX.out.bel); rintro e w4 ⟨rfl, hb⟩; have hn_ := Aside0.mk (HX.out.next hb); clear HX hb; have HX := hn_; clear hn_; (try clear ci n0 n1 n2 k0 k1); have ci := HX.out.ci; have n0 := HX.out.n0; have n1 := HX.out.n1; have n2 := HX.out.n2; have k0 := HX.out.k0; have k1 := HX.out.k1))
        go_roundg (l0.length - (kk + 1))
        case measure => have := HK.out; omega
        case rel =>
         refine ⟨kk + 1, es, sh, by go_num, ⟨by have := HK.out; omega, by omega⟩, ⟨below_step HB.out HX.out.bel, ⟨HS.out.1, HS.out.2.1, Nat.lt_of_lt_of_le HNL.out HX.out.bel.size⟩, HKI.out.below HX.out.bel HKL.out, HIM.out.below HX.out.bel HNL.out, HSH.out⟩, ⟨?_⟩⟩
         rw [HA.out, gall, gstep, HGK.out]
         simp only [HLA.out, HWT.out, HANY.out, and_self, if_true, HNM.out]
         norm_cast
       ·have HN := Aside0.mk hn
        have HNM := Aside0.mk hnm
        clear hn hnm
        rcases HSH.out.get at_ with ⟨h1, h2⟩ | ⟨As, cs, s, h1, h2, h3, h4⟩
        ·have HSG := Aside0.mk h1
         have HSE := Aside0.mk (show ∀ s, gseen at_ s sh = some (shPut at_ s sh) from fun s => by rw [gseen, h2])
         clear h1 h2
         go_wp2_with (first | (with_reducible refine wpList_im_hit (o := ⟨_, .lookup 86 _ _ true, _, _, _, _⟩) rfl _ _ rfl Try.underlying86 Try.underlying3 (hz49 _) _ _ HGET.out (HKI.out.below (below_alloc (below_alloc (Below.refl _ _) _) _) HKL.out) rfl rfl ?_) | (go_at_call 55; (with_reducible refine (graph_well.calls 8 n.f0 A1 c1 n.f1 A2 c2 n.f2 ka kn _ _ ?s1 HL1.out ?s2 HL2.out HW.out).mono ?_); (case s1 => exact Kd.C_below HI1.out HX.out.bel); (case s2 => exact Kd.C_below HI2.out HX.out.bel); rintro e w2 ⟨rfl, hb⟩; have hn_ := Aside0.mk (HX.out.next hb); clear HX hb; have HX := hn_; clear hn_; (try clear ci n0 n1 n2 k0 k1); have ci := HX.out.ci; have n0 := HX.out.n0; have n1 := HX.out.n1; have n2 := HX.out.n2; have k0 := HX.out.k0; have k1 := HX.out.k1) | (go_at_call 56; (with_reducible refine (slices_ContainsFunc_int_int.by_ (gahead kk) 54 #[.pointer (some ⟨wr.heap.size, 0, none⟩)] A1 c1 n.f1 _ ?s1 ?s2 ?s3).mono ?_); (case s1 => exact Kd.C_below HI1.out HX.out.bel); (case s2 => exact enters_ Try.prog Try.func54 (by kernel_rfl) rfl); (case s3 => exact fun W x _ hb => ahead_calls x kk ⟨wr.heap.size, 0, none⟩ W (pw_cell_below hb HX.out.ci)); rintro e w3 ⟨rfl, hb⟩; rw [HANY.out]; have hn_ := Aside0.mk (HX.out.next hb); clear HX hb; have HX := hn_; clear hn_; (try clear ci n0 n1 n2 k0 k1); have ci := HX.out.ci; have n0 := HX.out.n0; have n1 := HX.out.n1; have n2 := HX.out.n2; have k0 := HX.out.k0; have k1 := HX.out.k1) | (go_at_call 57; (with_reducible refine (graph_name.calls n.f0 A1 c1 n.f1 A2 c2 n.f2 _ _ _ ?s1 HL1.out ?s2 HL2.out HN.out).mono ?_); (case s1 => exact Kd.C_below HI1.out HX.out.bel); (case s2 => exact Kd.C_below HI2.out HX.out.bel); rintro e w4 ⟨rfl, hb⟩; have hn_ := Aside0.mk (HX.out.next hb); clear HX hb; have HX := hn_; clear hn_; (try clear ci n0 n1 n2 k0 k1); have ci := HX.out.ci; have n0 := HX.out.n0; have n1 := HX.out.n1; have n2 := HX.out.n2; have k0 := HX.out.k0; have k1 := HX.out.k1) | (with_reducible refine wpList_im_miss (o := ⟨_, .lookup 88 _ _ true, _, _, _, _⟩) rfl _ _ rfl Try.underlying88 Try.underlying3 (hz34 _) _ HSG.out (HIM.out.below HX.out.bel HNL.out) rfl rfl ?_) | ((with_reducible refine wpList_im_put (o := ⟨none, .mapUpdate 88 _ _ _, _, _, _, _⟩) rfl _ _ _ (Or.inr rfl) Try.underlying88 Try.underlying3 _ _ (HIM.out.below HX.out.bel HNL.out) rfl rfl rfl ?_); intro w6 him hgr; have HIM6 := Aside0.mk him; have HGR := Aside0.mk hgr; clear him hgr))
         go_roundg (l0.length - (kk + 1))
         case measure => have := HK.out; omega
         case rel =>
          have hbel := below_step HB.out HX.out.bel
          have hlt6 := Nat.lt_of_lt_of_le HNL.out HX.out.bel.size
          refine ⟨kk + 1, _, shPut at_ n.f2 sh, by go_num, ⟨by have := HK.out; omega, by omega⟩, ⟨hbel.grown HGR.out (Nat.le_trans HB.out.size HX.out.bel.size) (fun k hk => by injection hk with hk; have := HS.out; omega), ⟨HS.out.1, HS.out.2.1, Nat.lt_of_lt_of_le hlt6 HGR.out.size⟩, (HKI.out.below HX.out.bel HKL.out).keep (HGR.out.block bk (Nat.lt_of_lt_of_le HKL.out HX.out.bel.size) (by have := HS.out.2.1; simp; omega)), HIM6.out, HSH.out.put at_ HL2.out HI2w.out⟩, ⟨?_⟩⟩
          rw [HA.out, gall, gstep, HGK.out]
          simp only [HLA.out, HWT.out, HANY.out, and_self, if_true, HNM.out, HSE.out]
          norm_cast
        ·have HSG := Aside0.mk h1
         have HSC := Aside0.mk h3
         have HSR := Aside0.mk h4
         have hlen := well_len (kinds_le HGK.out) HWT.out
         have hlen10 : n.f2.length ≤ 10 := by omega
         by_cases hs : s = n.f2
         ·have HSE := Aside0.mk (show gseen at_ n.f2 sh = some (shPut at_ n.f2 sh) by rw [gseen, h2]; simp only [hs, if_true])
          have HEQ := Aside0.mk (gc_eq s n.f2 hlen10)
          have HDE := Aside0.mk (show decide (s = n.f2) = true from decide_eq_true hs)
          clear h1 h2 h3 h4 hs hlen hlen10
          go_wp2_with (first | (with_reducible refine wpList_im_hit (o := ⟨_, .lookup 86 _ _ true, _, _, _, _⟩) rfl _ _ rfl Try.underlying86 Try.underlying3 (hz49 _) _ _ HGET.out (HKI.out.below (below_alloc (below_alloc (Below.refl _ _) _) _) HKL.out) rfl rfl ?_) | (go_at_call 55; (with_reducible refine (graph_well.calls 8 n.f0 A1 c1 n.f1 A2 c2 n.f2 ka kn _ _ ?s1 HL1.out ?s2 HL2.out HW.out).mono ?_); (case s1 => exact Kd.C_below HI1.out HX.out.bel); (case s2 => exact Kd.C_below HI2.out HX.out.bel); rintro e w2 ⟨rfl, hb⟩; have hn_ := Aside0.mk (HX.out.next hb); clear HX hb; have HX := hn_; clear hn_; (try clear ci n0 n1 n2 k0 k1); have ci := HX.out.ci; have n0 := HX.out.n0; have n1 := HX.out.n1; have n2 := HX.out.n2; have k0 := HX.out.k0; have k1 := HX.out.k1) | (go_at_call 56; (with_reducible refine (slices_ContainsFunc_int_int.by_ (gahead kk) 54 #[.pointer (some ⟨wr.heap.size, 0, none⟩)] A1 c1 n.f1 _ ?s1 ?s2 ?s3).mono ?_); (case s1 => exact Kd.C_below HI1.out HX.out.bel); (case s2 => exact enters_ Try.prog Try.func54 (by kernel_rfl) rfl); (case s3 => exact fun W x _ hb => ahead_calls x kk ⟨wr.heap.size, 0, none⟩ W (pw_cell_below hb HX.out.ci)); rintro e w3 ⟨rfl, hb⟩; rw [HANY.out]; have hn_ := Aside0.mk (HX.out.next hb); clear HX hb; have HX := hn_; clear hn_; (try clear ci n0 n1 n2 k0 k1); have ci := HX.out.ci; have n0 := HX.out.n0; have n1 := HX.out.n1; have n2 := HX.out.n2; have k0 := HX.out.k0; have k1 := HX.out.k1) | (go_at_call 57; (with_reducible refine (graph_name.calls n.f0 A1 c1 n.f1 A2 c2 n.f2 _ _ _ ?s1 HL1.out ?s2 HL2.out HN.out).mono ?_); (case s1 => exact Kd.C_below HI1.out HX.out.bel); (case s2 => exact Kd.C_below HI2.out HX.out.bel); rintro e w4 ⟨rfl, hb⟩; have hn_ := Aside0.mk (HX.out.next hb); clear HX hb; have HX := hn_; clear hn_; (try clear ci n0 n1 n2 k0 k1); have ci := HX.out.ci; have n0 := HX.out.n0; have n1 := HX.out.n1; have n2 := HX.out.n2; have k0 := HX.out.k0; have k1 := HX.out.k1) | (with_reducible refine wpList_im_hit (o := ⟨_, .lookup 88 _ _ true, _, _, _, _⟩) rfl _ _ rfl Try.underlying88 Try.underlying3 (hz34 _) _ _ HSG.out (HIM.out.below HX.out.bel HNL.out) rfl rfl ?_) | (go_at_call 58; (with_reducible refine (slices_Equal_int_int.calls 12 As cs s A2 c2 n.f2 _ _ ?s1 HSC.out ?s2 HL2.out HEQ.out).mono ?_); (case s1 => exact Kd.C_below HSR.out (below_step HB.out HX.out.bel)); (case s2 => exact Kd.C_below HI2.out HX.out.bel); rintro e w5 ⟨rfl, hd⟩; rw [HDE.out]; have hb := hd.below; clear hd; have hn_ := Aside0.mk (HX.out.next hb); clear HX hb; have HX := hn_; clear hn_; (try clear ci n0 n1 n2 k0 k1); have ci := HX.out.ci; have n0 := HX.out.n0; have n1 := HX.out.n1; have n2 := HX.out.n2; have k0 := HX.out.k0; have k1 := HX.out.k1) | ((with_reducible refine wpList_im_put (o := ⟨none, .mapUpdate 88 _ _ _, _, _, _, _⟩) rfl _ _ _ (Or.inr rfl) Try.underlying88 Try.underlying3 _ _ (HIM.out.below HX.out.bel HNL.out) rfl rfl rfl ?_); intro w6 him hgr; have HIM6 := Aside0.mk him; have HGR := Aside0.mk hgr; clear him hgr))
          go_roundg (l0.length - (kk + 1))
          case measure => have := HK.out; omega
          case rel =>
           have hbel := below_step HB.out HX.out.bel
           have hlt6 := Nat.lt_of_lt_of_le HNL.out HX.out.bel.size
           refine ⟨kk + 1, _, shPut at_ n.f2 sh, by go_num, ⟨by have := HK.out; omega, by omega⟩, ⟨hbel.grown HGR.out (Nat.le_trans HB.out.size HX.out.bel.size) (fun k hk => by injection hk with hk; have := HS.out; omega), ⟨HS.out.1, HS.out.2.1, Nat.lt_of_lt_of_le hlt6 HGR.out.size⟩, (HKI.out.below HX.out.bel HKL.out).keep (HGR.out.block bk (Nat.lt_of_lt_of_le HKL.out HX.out.bel.size) (by have := HS.out.2.1; simp; omega)), HIM6.out, HSH.out.put at_ HL2.out HI2w.out⟩, ⟨?_⟩⟩
           rw [HA.out, gall, gstep, HGK.out]
           simp only [HLA.out, HWT.out, HANY.out, and_self, if_true, HNM.out, HSE.out]
           norm_cast
         ·have hgs : gseen at_ n.f2 sh = none := by rw [gseen, h2]; simp only [hs, if_false]
          have HEQ := Aside0.mk (gc_eq s n.f2 hlen10)
          have HDE := Aside0.mk (show decide (s = n.f2) = false from decide_eq_false hs)
          obtain rfl : r = false := by
           rw [← HH.out, HA.out, gall, gstep, HGK.out]
           simp only [HLA.out, HWT.out, HANY.out, and_self, if_true, HNM.out, hgs, Bool.false_and]
          clear h1 h2 h3 h4 hs hlen hlen10 hgs
          go_wp2_with (first | (with_reducible refine wpList_im_hit (o := ⟨_, .lookup 86 _ _ true, _, _, _, _⟩) rfl _ _ rfl Try.underlying86 Try.underlying3 (hz49 _) _ _ HGET.out (HKI.out.below (below_alloc (below_alloc (Below.refl _ _) _) _) HKL.out) rfl rfl ?_) | (go_at_call 55; (with_reducible refine (graph_well.calls 8 n.f0 A1 c1 n.f1 A2 c2 n.f2 ka kn _ _ ?s1 HL1.out ?s2 HL2.out HW.out).mono ?_); (case s1 => exact Kd.C_below HI1.out HX.out.bel); (case s2 => exact Kd.C_below HI2.out HX.out.bel); rintro e w2 ⟨rfl, hb⟩; have hn_ := Aside0.mk (HX.out.next hb); clear HX hb; have HX := hn_; clear hn_; (try clear ci n0 n1 n2 k0 k1); have ci := HX.out.ci; have n0 := HX.out.n0; have n1 := HX.out.n1; have n2 := HX.out.n2; have k0 := HX.out.k0; have k1 := HX.out.k1) | (go_at_call 56; (with_reducible refine (slices_ContainsFunc_int_int.by_ (gahead kk) 54 #[.pointer (some ⟨wr.heap.size, 0, none⟩)] A1 c1 n.f1 _ ?s1 ?s2 ?s3).mono ?_); (case s1 => exact Kd.C_below HI1.out HX.out.bel); (case s2 => exact enters_ Try.prog Try.func54 (by kernel_rfl) rfl); (case s3 => exact fun W x _ hb => ahead_calls x kk ⟨wr.heap.size, 0, none⟩ W (pw_cell_below hb HX.out.ci)); rintro e w3 ⟨rfl, hb⟩; rw [HANY.out]; have hn_ := Aside0.mk (HX.out.next hb); clear HX hb; have HX := hn_; clear hn_; (try clear ci n0 n1 n2 k0 k1); have ci := HX.out.ci; have n0 := HX.out.n0; have n1 := HX.out.n1; have n2 := HX.out.n2; have k0 := HX.out.k0; have k1 := HX.out.k1) | (go_at_call 57; (with_reducible refine (graph_name.calls n.f0 A1 c1 n.f1 A2 c2 n.f2 _ _ _ ?s1 HL1.out ?s2 HL2.out HN.out).mono ?_); (case s1 => exact Kd.C_below HI1.out HX.out.bel); (case s2 => exact Kd.C_below HI2.out HX.out.bel); rintro e w4 ⟨rfl, hb⟩; have hn_ := Aside0.mk (HX.out.next hb); clear HX hb; have HX := hn_; clear hn_; (try clear ci n0 n1 n2 k0 k1); have ci := HX.out.ci; have n0 := HX.out.n0; have n1 := HX.out.n1; have n2 := HX.out.n2; have k0 := HX.out.k0; have k1 := HX.out.k1) | (with_reducible refine wpList_im_hit (o := ⟨_, .lookup 88 _ _ true, _, _, _, _⟩) rfl _ _ rfl Try.underlying88 Try.underlying3 (hz34 _) _ _ HSG.out (HIM.out.below HX.out.bel HNL.out) rfl rfl ?_) | (go_at_call 58; (with_reducible refine (slices_Equal_int_int.calls 12 As cs s A2 c2 n.f2 _ _ ?s1 HSC.out ?s2 HL2.out HEQ.out).mono ?_); (case s1 => exact Kd.C_below HSR.out (below_step HB.out HX.out.bel)); (case s2 => exact Kd.C_below HI2.out HX.out.bel); rintro e w5 ⟨rfl, hd⟩; rw [HDE.out]; have hb := hd.below; clear hd; have hn_ := Aside0.mk (HX.out.next hb); clear HX hb; have HX := hn_; clear hn_; (try clear ci n0 n1 n2 k0 k1); have ci := HX.out.ci; have n0 := HX.out.n0; have n1 := HX.out.n1; have n2 := HX.out.n2; have k0 := HX.out.k0; have k1 := HX.out.k1))
          go_ret
          exact ⟨rfl, below_step HB.out HX.out.bel⟩
    ·have hb0 : ((n.f1.length : Int) == ka) = false := beq_eq_false_iff_ne.mpr ha
     have hb1 : ((n.f1.length : Int) != ka) = true := bne_iff_ne.mpr ha
     obtain rfl : r = false := by
      rw [← HH.out, HA.out]
      simp [gall, gstep, HGK.out, ha]
     clear ha
     go_wp2_with (with_reducible refine wpList_im_hit (o := ⟨_, .lookup 86 _ _ true, _, _, _, _⟩) rfl _ _ rfl Try.underlying86 Try.underlying3 (hz49 _) _ _ HGET.out (HKI.out.below (below_alloc (below_alloc (Below.refl _ _) _) _) HKL.out) rfl rfl ?_)
     go_ret
     exact ⟨rfl, below_alloc (below_alloc (below_alloc HB.out _) _) _⟩
  ·have hke : kk = l0.length := by have := HK.out; omega
   have hbz : decide ((kk : Int) < (l0.length : Int)) = false := decide_eq_false (by omega)
   have hbz2 : decide (kk < l0.length) = false := decide_eq_false hlt
   have hga : gall 0 l0 [] = true := by
    rw [HA.out, hke, List.drop_length]
    rfl
   have HB := Aside0.mk HG.out.bel
   have HGA := Aside0.mk hga
   clear hga hke HA HG hk1 hk2 HK3 HB1 hlt
   by_cases hp : 0 < l0.length
   ·have d1 : decide (0 < (l0.length : Int)) = true := decide_eq_true (by omega)
    have d2 : decide (0 < l0.length) = true := decide_eq_true hp
    by_cases h24 : l0.length ≤ 24
    ·have d3 : decide ((l0.length : Int) ≤ 24) = true := decide_eq_true (by omega)
     have d4 : decide (l0.length ≤ 24) = true := decide_eq_true h24
     obtain rfl : r = true := by rw [← HH.out, HGA.out, d2, d4]; rfl
     clear hp h24
     go_wp2
     go_ret
     exact ⟨rfl, HB.out⟩
    ·have d3 : decide ((l0.length : Int) ≤ 24) = false := decide_eq_false (by omega)
     have d4 : decide (l0.length ≤ 24) = false := decide_eq_false h24
     obtain rfl : r = false := by rw [← HH.out, HGA.out, d2, d4]; rfl
     clear hp h24
     go_wp2
     go_ret
     exact ⟨rfl, HB.out⟩
   ·have d1 : decide (0 < (l0.length : Int)) = false := decide_eq_false (by omega)
    have d2 : decide (0 < l0.length) = false := decide_eq_false hp
    obtain rfl : r = false := by rw [← HH.out, HGA.out, d2]; rfl
    clear hp
    go_wp2
    go_ret
    exact ⟨rfl, HB.out⟩
def script_empty.f (l0_0 : List Int) (l0_1 : List Int) : Option (Bool) := some ((wrap64 ((l0_0.length : Int) + (l0_1.length : Int))) == 0)
set_option maxHeartbeats 8000000 in
set_option maxRecDepth 100000 in
theorem script_empty.calls (A0_0 : Option Addr) (c0_0 : Nat) (l0_0 : List Int) (A0_1 : Option Addr) (c0_1 : Nat) (l0_1 : List Int) (r : Bool) (w : World) (hr0_0 : Kd.C (Kd.int .i64) w A0_0 l0_0.length l0_0) (hc0_0 : l0_0.length ≤ c0_0) (hr0_1 : Kd.C (Kd.int .i64) w A0_1 l0_1.length l0_1) (hc0_1 : l0_1.length ≤ c0_1) (h : script_empty.f l0_0 l0_1 = some r) :
    Calls Try.prog 31 #[.agg #[.slice A0_0 l0_0.length c0_0, .slice A0_1 l0_1.length c0_1]] w fun e w' => e = .returned (.bool r) ∧ Below w.heap.size w w' := by
  have hu26 := Try.underlying26
  have HR0_0 := Aside0.mk hr0_0
  have HC0_0 := Aside0.mk hc0_0
  clear hr0_0 hc0_0
  have HR0_1 := Aside0.mk hr0_1
  have HC0_1 := Aside0.mk hc0_1
  clear hr0_1 hc0_1
  have HB := Aside0.mk (Below.refl w.heap.size w)
  have H : (some ((wrap64 ((l0_0.length : Int) + (l0_1.length : Int))) == 0)) = some r := h
  clear h
  obtain rfl := Option.some.inj H
  go_enter Try.func31, Try.ntmps31
  go_wp2_with (first | ((with_reducible refine gate_dst (N := 1) rfl ?_); refine box_event ?hg (N := 1) ?hd (cs := #[.slice A0_0 l0_0.length c0_0, .slice A0_1 l0_1.length c0_1]) (t := 26) ?hr ?_; (case hd => rfl); (case hg => rfl); (case hr => first | (go_simp; done) | (go_simp; rfl)); intro gb113 hg w2 hbox hb; have n0_ := Aside0.mk (below_step (by repeat (first | (with_reducible first | exact HB.out | apply below_alloc | apply pw_below_drewN | apply below_drew1) | exact HB.out)) hb); have n1_ := Aside0.mk (hbox); have n2_ := Aside0.mk ((by rw [hg]; exact (below_size (by repeat (first | (with_reducible first | exact HB.out | apply below_alloc | apply pw_below_drewN | apply below_drew1) | exact HB.out))) : w.heap.size ≤ gb113)); have n3_ := Aside0.mk ((by rw [hg]; exact (below_size (by repeat (first | (with_reducible first | exact HB.out | apply below_alloc | apply pw_below_drewN | apply below_drew1) | exact HB.out))) : w.heap.size ≤ gb113)); clear HB; have HB := n0_; have BK113 := n1_; have GW113 := n2_; have GE113 := n3_; clear n0_ n1_ n2_ n3_; clear hb hbox hg; have hcz3_0 := cz0_ BK113.out; have hcz3_1 := cz1_ BK113.out; have hfz3_0 := blk_frozen BK113.out 0; have hfz3_1 := blk_frozen BK113.out 1))
  go_ret
  exact ⟨by first | rfl | (simp [errW_none, errW_some] <;> rfl) | (simp [*, errW_none, errW_some] <;> rfl), by repeat (first | (with_reducible first | exact HB.out | apply below_alloc | apply pw_below_drewN | apply below_drew1 | refine below_set ?_ GE113.out) | exact HB.out)⟩
def shape_Size.l0 : Nat → Int → List Int → Int → Int → Option (Int)
  | 0, _, _, _, _ => none
  | k + 1, x3, x9, x10, x11 => if x11 < x10 then (if 0 ≤ x11 then (if x11 < (x9.length : Int) then (shape_Size.l0 k (wrap64 (x3 * (rd x9 x11))) x9 x10 (wrap64 (x11 + 1))) else (none)) else (none)) else (some x3)
def shape_Size.f (k : Nat) (l0 : List Int) : Option (Int) := (shape_Check.f k l0).bind fun t114 => (if t114 = true then (shape_Size.l0 k 1 l0 (l0.length : Int) 0) else (some 0))
theorem shape_Size.mono_l : ∀ k, (∀ y0 y1 y2 y3, LeO (shape_Size.l0 k y0 y1 y2 y3) (shape_Size.l0 (k + 1) y0 y1 y2 y3))
  | 0 => fun _ _ _ _ r h => by simp [shape_Size.l0] at h
  | k + 1 => by
    have ih0 := shape_Size.mono_l k
    · intro y0 y1 y2 y3
      unfold shape_Size.l0
      repeat' first
       | (with_reducible first | exact ih0 _ _ _ _ | exact shape_Check.mono _ _ | exact LeO.refl _ | exact LeO.none _ | refine LeO.ite ?_ ?_ | refine LeO.bind ?_ (fun _ => ?_))
       | first | exact ih0 _ _ _ _ | exact shape_Check.mono _ _ | exact LeO.none _ | refine LeO.ite ?_ ?_ | refine LeO.bind ?_ (fun _ => ?_)
theorem shape_Size.mono : ∀ a0 k, LeO (shape_Size.f k a0) (shape_Size.f (k + 1) a0) := by
  intro a0 k
  have ih0 := shape_Size.mono_l k
  unfold shape_Size.f
  repeat' first
   | (with_reducible first | exact ih0 _ _ _ _ | exact shape_Check.mono _ _ | exact LeO.refl _ | exact LeO.none _ | refine LeO.ite ?_ ?_ | refine LeO.bind ?_ (fun _ => ?_))
   | first | exact ih0 _ _ _ _ | exact shape_Check.mono _ _ | exact LeO.none _ | refine LeO.ite ?_ ?_ | refine LeO.bind ?_ (fun _ => ?_)
set_option maxHeartbeats 8000000 in
set_option maxRecDepth 100000 in
theorem shape_Size.calls (k : Nat) (A0 : Option Addr) (c0 : Nat) (l0 : List Int) (r : Int) (w : World) (hr0 : Kd.C (Kd.int .i64) w A0 l0.length l0) (hc0 : l0.length ≤ c0) (h : shape_Size.f k l0 = some r) :
    Calls Try.prog 60 #[.slice A0 l0.length c0] w fun e w' => e = .returned (.int .i64 r) ∧ Drawn0 w w' := by
  have HR0 := Aside0.mk hr0
  have HC0 := Aside0.mk hc0
  clear hr0 hc0
  have H : ((shape_Check.f k l0).bind fun t114 => (if t114 = true then (shape_Size.l0 k 1 l0 (l0.length : Int) 0) else (some 0))) = some r := h
  clear h
  replace H := Option.bind_eq_some_iff.mp H
  obtain ⟨t114, A20, H⟩ := H
  replace H : (if t114 = true then (shape_Size.l0 k 1 l0 (l0.length : Int) 0) else (some 0)) = some r := H
  have A2 := Aside0.mk A20
  clear A20
  by_cases c3 : t114 = true
  · subst c3
    have H1 : (shape_Size.l0 k 1 l0 (l0.length : Int) 0) = some r := by rw [if_pos rfl] at H; exact H
    clear H
    have H := H1
    clear H1
    have H' := Aside0.mk H
    clear H
    go_enter Try.func60, Try.ntmps60
    go_wp2_with (first | ((with_reducible refine gate_callee (f := 59) rfl ?_); refine goesL_ (some 7) rfl rfl Try.func59 (by kernel_rfl) rfl #[.slice A0 l0.length c0] rfl (by (try simp only [List.map_toArray, List.map_cons, List.map_nil]); first | done | rfl | (simp only [List.length_drop, List.length_take]; rfl)) ?_; (with_reducible refine (shape_Check.calls k _ _ l0 true _ ?side1 ?side2 A2.out).mono ?_); (case side1 => repeat (first | exact HR0.out | (with_reducible refine Kd.C_alloc ?_ _) | (with_reducible refine Kd.C_drewN ?_ _) | (with_reducible refine Kd.C_drew ?_))); (case side2 => exact HC0.out); rintro e w' ⟨rfl, ⟨nd, rfl⟩⟩; refine ⟨_, rfl, ?_⟩))
    go_loopg [3, 11] k (fun kq v3 v11 w' => ∃ (x3_1 : Int) (x11_1 : Int), v3 = .int .i64 x3_1 ∧ v11 = .int .i64 x11_1 ∧ Aside0 (shape_Size.l0 kq x3_1 l0 (l0.length : Int) x11_1 = some r) ∧ Aside0 (kq ≤ k) ∧ Drawn0 w w')
    case atStart => exact ⟨(1), (0), (by first | rfl | (simp; done) | (simp [*]; done)), (by first | rfl | (simp; done) | (simp [*]; done)), H', ⟨Nat.le_refl _⟩, by repeat (first | exact Drawn0.refl _ | apply Drawn0.step)⟩
    case round =>
      clear H'
      try clear p2
      try clear c3
      obtain ⟨x3_1, x11_1, rfl, rfl, HA, HK1, ⟨m1, rfl⟩⟩ := hrel
      cases gk with
      | zero => exact absurd HA.out (by simp [shape_Size.l0])
      | succ k1 =>
        have H := HA.out
        clear HA
        simp only [shape_Size.l0] at H
        by_cases c4 : x11_1 < (l0.length : Int)
        · rw [if_pos c4] at H
          have c4b0 : decide (x11_1 < (l0.length : Int)) = true := decide_eq_true c4
          clear c4
          by_cases c5 : 0 ≤ x11_1
          · rw [if_pos c5] at H
            have c5b0 : decide (0 ≤ x11_1) = true := decide_eq_true c5
            clear c5
            by_cases c6 : x11_1 < (l0.length : Int)
            · rw [if_pos c6] at H
              have c6b0 : decide (x11_1 < (l0.length : Int)) = true := decide_eq_true c6
              clear c6
              have H' := Aside0.mk H
              clear H
              have p115 : 0 ≤ (x11_1 : Int) := of_decide_eq_true (by first | (with_reducible assumption) | assumption)
              have q115 : x11_1 < (l0.length : Int) := of_decide_eq_true (by first | (with_reducible assumption) | assumption)
              obtain ⟨ad115, e115, hx115_0⟩ := Kd.at_int HR0.out x11_1 p115 q115
              cases e115
              replace p115 := eq_true p115
              replace q115 := eq_true q115
              go_wp2
              go_roundg k1
              case measure => have := HK1.out; omega
              case rel => exact ⟨(wrap64 (x3_1 * (rd l0 x11_1))), (wrap64 (x11_1 + 1)), (by first | rfl | (simp; done) | (simp [*]; done)), (by first | rfl | (simp; done) | (simp [*]; done)), H', ⟨by have := HK1.out; omega⟩, by repeat (first | exact Drawn0.refl _ | apply Drawn0.step)⟩
            · rw [if_neg c6] at H
              exact absurd H (by simp)
          · rw [if_neg c5] at H
            exact absurd H (by simp)
        · rw [if_neg c4] at H
          have c4b0 : decide (x11_1 < (l0.length : Int)) = false := decide_eq_false c4
          clear c4
          obtain rfl := Option.some.inj H
          go_wp2
          go_ret
          exact ⟨by first | rfl | (simp; done) | (simp [*]; done), by repeat (first | exact Drawn0.refl _ | apply Drawn0.step)⟩
  · replace c3 := Bool.eq_false_iff.mpr c3
    subst c3
    have H1 : (some 0) = some r := by rw [if_neg (show ¬ (false = true) by decide)] at H; exact H
    clear H
    have H := H1
    clear H1
    obtain rfl := Option.some.inj H
    go_enter Try.func60, Try.ntmps60
    go_wp2_with (first | ((with_reducible refine gate_callee (f := 59) rfl ?_); refine goesL_ (some 7) rfl rfl Try.func59 (by kernel_rfl) rfl #[.slice A0 l0.length c0] rfl (by (try simp only [List.map_toArray, List.map_cons, List.map_nil]); first | done | rfl | (simp only [List.length_drop, List.length_take]; rfl)) ?_; (with_reducible refine (shape_Check.calls k _ _ l0 false _ ?side1 ?side2 A2.out).mono ?_); (case side1 => repeat (first | exact HR0.out | (with_reducible refine Kd.C_alloc ?_ _) | (with_reducible refine Kd.C_drewN ?_ _) | (with_reducible refine Kd.C_drew ?_))); (case side2 => exact HC0.out); rintro e w' ⟨rfl, ⟨nd, rfl⟩⟩; refine ⟨_, rfl, ?_⟩))
    go_ret
    exact ⟨by first | rfl | (simp; done) | (simp [*]; done), by repeat (first | exact Drawn0.refl _ | apply Drawn0.step)⟩
def L32_0 : Array Bool := #[false, false, false, false, false, false, false, false, false, false, false, false, false]
def L32_1 : Array Bool := #[true, false, false, false, false, false, false, false, false, false, false, false, false]
def L32_2 : Array Bool := #[true, true, false, false, false, false, false, false, false, false, false, false, false]
def L32_3 : Array Bool := #[true, true, true, false, false, false, false, false, false, false, false, false, false]
def L32_4 : Array Bool := #[true, true, true, true, false, false, false, false, false, false, false, false, false]
def L32_5 : Array Bool := #[true, true, true, true, true, false, false, false, false, false, false, false, false]
def L32_6 : Array Bool := #[true, true, true, true, true, false, false, true, false, false, false, false, false]
def L32_7 : Array Bool := #[true, true, true, true, true, true, false, true, false, false, false, false, false]
def L32_8 : Array Bool := #[true, true, true, true, true, true, true, true, false, false, false, false, false]
def L32_9 : Array Bool := #[true, true, true, true, true, true, true, true, true, false, false, false, false]
def L32_10 : Array Bool := #[true, true, true, true, true, true, true, true, true, true, false, false, false]
def L32_11 : Array Bool := #[true, true, true, true, true, true, true, true, true, true, true, false, false]
def L32_12 : Array Bool := #[true, true, true, true, true, true, true, true, true, true, true, true, false]
def L32_13 : Array Bool := #[true, true, true, true, true, true, true, true, true, true, true, true, true]
def tensor_Check.f (k : Nat) (l0_0 : List Int) (l0_1 : List Int) : Option (Bool) := (shape_Check.f k l0_0).bind fun t117 => (if t117 = true then ((shape_Size.f k l0_0).bind fun t118 => (some ((l0_1.length : Int) == t118))) else (some false))
theorem tensor_Check.mono : ∀ a0 a1 k, LeO (tensor_Check.f k a0 a1) (tensor_Check.f (k + 1) a0 a1) := by
 intro a0 a1 k
 unfold tensor_Check.f
 repeat' first
  | (with_reducible first | exact shape_Check.mono _ _ | exact shape_Size.mono _ _ | exact LeO.refl _ | exact LeO.none _ | refine LeO.ite ?_ ?_ | refine LeO.bind ?_ (fun _ => ?_))
  | first | exact shape_Check.mono _ _ | exact shape_Size.mono _ _ | exact LeO.none _ | refine LeO.ite ?_ ?_ | refine LeO.bind ?_ (fun _ => ?_)
def tensor_Check.T1 : Bool × List (List Nat × List Nat) := (true, [([], []), ([0], [0]), ([1], [1]), ([2, 2], [2]), ([3], [3]), ([4, 3], [3, 4]), ([5, 3], [3, 5]), ([3], [3]), ([7, 3], [3, 7]), ([8, 3, 3], [3, 8]), ([6, 9, 3], [3, 6, 9]), ([3, 10], [3, 10]), ([11, 9, 0, 1, 2, 3, 4, 5, 6, 7, 8, 9, 10, 11], [11])])
def tensor_Check.B1 : List Nat := [0, 1, 3, 7, 15, 31, 63, 15, 143, 399, 1023, 2047, 4095]
theorem tensor_Check.tab1 : rtab .any (opsOf Try.f32 1) = tensor_Check.T1 := by kernel_rfl
theorem tensor_Check.bits1 : waitsOk tensor_Check.T1.2 tensor_Check.B1 = true := by kernel_rfl
set_option maxHeartbeats 8000000 in
set_option maxRecDepth 100000 in
theorem tensor_Check.calls (k : Nat) (A0_0 : Option Addr) (c0_0 : Nat) (l0_0 : List Int) (A0_1 : Option Addr) (c0_1 : Nat) (l0_1 : List Int) (r : Bool) (w : World) (hr0_0 : Kd.C (Kd.int .i64) w A0_0 l0_0.length l0_0) (hc0_0 : l0_0.length ≤ c0_0) (hr0_1 : Kd.C (Kd.int .i64) w A0_1 l0_1.length l0_1) (hc0_1 : l0_1.length ≤ c0_1) (h : tensor_Check.f k l0_0 l0_1 = some r) :
  Calls Try.prog 32 #[.agg #[.slice A0_0 l0_0.length c0_0, .slice A0_1 l0_1.length c0_1]] w fun e w' => e = .returned (.bool r) ∧ Below w.heap.size w w' := by
 have hu26 := Try.underlying26
 have HR0_0 := Aside0.mk hr0_0
 have HC0_0 := Aside0.mk hc0_0
 clear hr0_0 hc0_0
 have HR0_1 := Aside0.mk hr0_1
 have HC0_1 := Aside0.mk hc0_1
 clear hr0_1 hc0_1
 have HB := Aside0.mk (Below.refl w.heap.size w)
 have H : ((shape_Check.f k l0_0).bind fun t117 => (if t117 = true then ((shape_Size.f k l0_0).bind fun t118 => (some ((l0_1.length : Int) == t118))) else (some false))) = some r := h
 clear h
 replace H := Option.bind_eq_some_iff.mp H
 obtain ⟨t117, A20, H⟩ := H
 replace H : (if t117 = true then ((shape_Size.f k l0_0).bind fun t118 => (some ((l0_1.length : Int) == t118))) else (some false)) = some r := H
 have A2 := Aside0.mk A20
 clear A20
 by_cases c3 : t117 = true
 ·subst c3
  have H1 : ((shape_Size.f k l0_0).bind fun t118 => (some ((l0_1.length : Int) == t118))) = some r := by rw [if_pos rfl] at H; exact H
  clear H
  have H := H1
  clear H1
  replace H := Option.bind_eq_some_iff.mp H
  obtain ⟨t118, A40, H⟩ := H
  replace H : (some ((l0_1.length : Int) == t118)) = some r := H
  have A4 := Aside0.mk A40
  clear A40
  obtain rfl := Option.some.inj H
  go_enter Try.func32, Try.ntmps32
  try go_wp2_with (first | ((with_reducible refine gate_dst (N := 1) rfl ?_); (try (refine gate_guard (by rfl) ?_; dsimp only)); refine box_event ?hg (N := 1) ?hd (cs := #[.slice A0_0 l0_0.length c0_0, .slice A0_1 l0_1.length c0_1]) (t := 26) ?hr ?_; (case hd => rfl); (case hg => rfl); (case hr => first | (go_simp; done) | (go_simp; rfl)); intro gb116 hg w5 hbox hb; have BK116 := Aside0.mk (hbox); have GW116 := Aside0.mk ((by rw [hg]; exact (below_size (bq0_ HB.out)) : w.heap.size ≤ gb116)); have GE116 := Aside0.mk ((by rw [hg]; exact (below_size (bq0_ HB.out)) : w.heap.size ≤ gb116)); replace HB := Aside0.mk (below_step (bq0_ HB.out) hb); clear hb hbox hg))
  replace BK116 := Aside0.mk (blk_drew BK116.out)
  replace HB := Aside0.mk (below_drew1 HB.out)
  refine start_ (n := 13) (S := fun w' => w'.cell? ⟨gb116, 0, none⟩ = some (.slice A0_0 l0_0.length c0_0) ∧ w'.cell? ⟨gb116, 1, none⟩ = some (.slice A0_1 l0_1.length c0_1)) (ds := []) L32_0 (by kernel_rfl) rfl rfl ⟨(blk_cell BK116.out 0).trans rfl, (blk_cell BK116.out 1).trans rfl⟩ (fun hHeld => ?_); refine with_tabW tensor_Check.tab1 tensor_Check.bits1 (fun HT_ HW_ => ?_)
  generalize w5.drew = w6 at BK116 HB hHeld ⊢
  refine pu_ 0 (some 3) L32_1 HT_ ?_
  refine ta_ 1 (some 4) L32_2 HT_ HW_ hHeld ?_ (hy := by rintro w' ⟨s0, s1⟩; go_simp; with_reducible rfl)
  refine one_ (i := 2) (N := some 5) L32_3 rfl rfl (one_of HT_.out (by kernel_rfl)) (by decide) (fun K hK => ?_)
  refine goes_ Try.func59 (by kernel_rfl) rfl #[.slice A0_0 l0_0.length c0_0] (by rfl) rfl rfl (by (try simp only [List.map_toArray, List.map_cons, List.map_nil]); first | done | rfl | (simp only [List.length_drop, List.length_take]; rfl)) ?_
  with_reducible refine (shape_Check.calls k _ _ l0_0 true _ ?side1 ?side2 A2.out).mono ?_
  (case side1 => repeat (first | exact (Kd.C_below HR0_0.out HB.out) | (with_reducible refine Kd.C_alloc ?_ _) | (with_reducible refine Kd.C_drewN ?_ _) | (with_reducible refine Kd.C_drew ?_)))
  (case side2 => exact HC0_0.out)
  rintro e w' ⟨rfl, ⟨nd, rfl⟩⟩
  refine ⟨_, rfl, ?_⟩
  refine hK.out _ _ ⟨(blk_cell BK116.out 0).trans rfl, (blk_cell BK116.out 1).trans rfl⟩ (fun hHeld => ?_)
  clear hK K
  refine norm_ (a' := ?_) ?_ ?_
  rotate_left
  ·show Act.put _ (some 5) _ = _
   simp only [Act.put, sA_, sB_, sC_, i64_w, i32_w]
   rfl
  refine pu_ 3 (some 6) L32_4 HT_ ?_
  refine pu_ 4 (some 7) L32_5 HT_ ?_
  refine pu_ 7 (some 10) L32_6 HT_ ?_
  refine ta_ 5 (some 8) L32_7 HT_ HW_ hHeld ?_ (hy := by rintro w' ⟨s0, s1⟩; go_simp; with_reducible rfl)
  refine pu_ 6 (some 9) L32_8 HT_ ?_
  refine ta_ 8 (some 11) L32_9 HT_ HW_ hHeld ?_ (hy := by rintro w' ⟨s0, s1⟩; go_simp; with_reducible rfl)
  refine one_ (i := 9) (N := some 12) L32_10 rfl rfl (one_of HT_.out (by kernel_rfl)) (by decide) (fun K hK => ?_)
  refine goes_ Try.func60 (by kernel_rfl) rfl #[.slice A0_0 l0_0.length c0_0] (by rfl) rfl rfl (by (try simp only [List.map_toArray, List.map_cons, List.map_nil]); first | done | rfl | (simp only [List.length_drop, List.length_take]; rfl)) ?_
  with_reducible refine (shape_Size.calls k _ _ l0_0 t118 _ ?side1 ?side2 A4.out).mono ?_
  (case side1 => repeat (first | exact (Kd.C_below HR0_0.out (bq1_ HB.out GE116.out)) | (with_reducible refine Kd.C_alloc ?_ _) | (with_reducible refine Kd.C_drewN ?_ _) | (with_reducible refine Kd.C_drew ?_)))
  (case side2 => exact HC0_0.out)
  rintro e w' ⟨rfl, ⟨nd, rfl⟩⟩
  refine ⟨_, rfl, ?_⟩
  refine hK.out _ _ ⟨(blk_cell BK116.out 0).trans rfl, (blk_cell BK116.out 1).trans rfl⟩ (fun hHeld => ?_)
  clear hK K
  refine norm_ (a' := ?_) ?_ ?_
  rotate_left
  ·show Act.put _ (some 12) _ = _
   simp only [Act.put, sA_, sB_, sC_, i64_w, i32_w]
   rfl
  refine pu_ 10 (some 13) L32_11 HT_ ?_
  refine pu_ 11 (some 14) L32_12 HT_ ?_
  refine pu_ 12 (some 2) L32_13 HT_ ?_
  refine done_ (done_of HT_.out (by kernel_rfl)) ?_
  try go_wp2
  go_ret
  exact ⟨by first | rfl | (simp <;> rfl) | (simp [*] <;> rfl), bq1_ HB.out GE116.out⟩
 ·replace c3 := Bool.eq_false_iff.mpr c3
  subst c3
  have H1 : (some false) = some r := by rw [if_neg (show ¬ (false = true) by decide)] at H; exact H
  clear H
  have H := H1
  clear H1
  obtain rfl := Option.some.inj H
  go_enter Try.func32, Try.ntmps32
  try go_wp2_with (first | ((with_reducible refine gate_dst (N := 1) rfl ?_); (try (refine gate_guard (by rfl) ?_; dsimp only)); refine box_event ?hg (N := 1) ?hd (cs := #[.slice A0_0 l0_0.length c0_0, .slice A0_1 l0_1.length c0_1]) (t := 26) ?hr ?_; (case hd => rfl); (case hg => rfl); (case hr => first | (go_simp; done) | (go_simp; rfl)); intro gb116 hg w7 hbox hb; have BK116 := Aside0.mk (hbox); have GW116 := Aside0.mk ((by rw [hg]; exact (below_size (bq0_ HB.out)) : w.heap.size ≤ gb116)); have GE116 := Aside0.mk ((by rw [hg]; exact (below_size (bq0_ HB.out)) : w.heap.size ≤ gb116)); replace HB := Aside0.mk (below_step (bq0_ HB.out) hb); clear hb hbox hg))
  replace BK116 := Aside0.mk (blk_drew BK116.out)
  replace HB := Aside0.mk (below_drew1 HB.out)
  refine start_ (n := 13) (S := fun w' => w'.cell? ⟨gb116, 0, none⟩ = some (.slice A0_0 l0_0.length c0_0) ∧ w'.cell? ⟨gb116, 1, none⟩ = some (.slice A0_1 l0_1.length c0_1)) (ds := []) L32_0 (by kernel_rfl) rfl rfl ⟨(blk_cell BK116.out 0).trans rfl, (blk_cell BK116.out 1).trans rfl⟩ (fun hHeld => ?_); refine with_tabW tensor_Check.tab1 tensor_Check.bits1 (fun HT_ HW_ => ?_)
  generalize w7.drew = w8 at BK116 HB hHeld ⊢
  refine pu_ 0 (some 3) L32_1 HT_ ?_
  refine ta_ 1 (some 4) L32_2 HT_ HW_ hHeld ?_ (hy := by rintro w' ⟨s0, s1⟩; go_simp; with_reducible rfl)
  refine one_ (i := 2) (N := some 5) L32_3 rfl rfl (one_of HT_.out (by kernel_rfl)) (by decide) (fun K hK => ?_)
  refine goes_ Try.func59 (by kernel_rfl) rfl #[.slice A0_0 l0_0.length c0_0] (by rfl) rfl rfl (by (try simp only [List.map_toArray, List.map_cons, List.map_nil]); first | done | rfl | (simp only [List.length_drop, List.length_take]; rfl)) ?_
  with_reducible refine (shape_Check.calls k _ _ l0_0 false _ ?side1 ?side2 A2.out).mono ?_
  (case side1 => repeat (first | exact (Kd.C_below HR0_0.out HB.out) | (with_reducible refine Kd.C_alloc ?_ _) | (with_reducible refine Kd.C_drewN ?_ _) | (with_reducible refine Kd.C_drew ?_)))
  (case side2 => exact HC0_0.out)
  rintro e w' ⟨rfl, ⟨nd, rfl⟩⟩
  refine ⟨_, rfl, ?_⟩
  refine hK.out _ _ ⟨(blk_cell BK116.out 0).trans rfl, (blk_cell BK116.out 1).trans rfl⟩ (fun hHeld => ?_)
  clear hK K
  refine norm_ (a' := ?_) ?_ ?_
  rotate_left
  ·show Act.put _ (some 5) _ = _
   simp only [Act.put, sA_, sB_, sC_, i64_w, i32_w]
   rfl
  refine pu_ 3 (some 6) L32_4 HT_ ?_
  refine skips_ (fuel := 2) (m := 9) HT_.out (fun _ _ _ _ _ h => h) [(4, 7), (5, 8), (6, 9), (7, 10), (8, 11), (9, 12), (10, 13)] L32_11 rfl (by kernel_rfl) (by kernel_rfl) (a' := ?_) ?_ ?_
  rotate_left
  ·simp only [putU, Act.put, sA_, sB_, sC_]
   rfl
  refine pu_ 11 (some 14) L32_12 HT_ ?_
  refine pu_ 12 (some 2) L32_13 HT_ ?_
  refine done_ (done_of HT_.out (by kernel_rfl)) ?_
  try go_wp2
  go_ret
  exact ⟨by first | rfl | (simp <;> rfl) | (simp [*] <;> rfl), bq1_ HB.out GE116.out⟩
end Go.Proofs.Ytjcgadfmhfhbgaa.A
