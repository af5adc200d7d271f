/- Lean functions that answer as the Go functions do, and the proofs that they do; no conditions. Written by this session's own driver: a scratch copy of the kit's print with the session's additions (wip/xprint). -/
import Derived.Test.YtchmfdaebohplaaAx0
import Derived.Test.YtchmfdaebohplaaAx1
namespace Go.Proofs.Ytchmfdaebohplaa.A
open Go.RowKit Go.Proofs.YtchmfdaebohplaaW.PrintWords Go.Proofs.YtchmfdaebohplaaW.PrintLast Go.Proofs.YtchmfdaebohplaaW.PrintMore
attribute [local go_sem] max2_int min2_int max_two min_two max_three min_three max_four min_four   -- for this text's walks alone
set_option linter.unusedVariables false
set_option linter.unusedSimpArgs false

/-! ### graph_Check: function 14 (given) -/
/-! #### what the callees answer -/
theorem gc_shape0 (l : List Int) (d : Nat) : ∀ (k : Nat) (x : Int) (i : Nat), l.length - i = d → i ≤ l.length → l.length ≤ 3 → d < k → ∃ r, shape_Check.l0 k x l (l.length : Int) (i : Int) = some r := by
  induction d with
  | zero =>
    intro k x i hd hi h3 hk
    obtain ⟨k, rfl⟩ : ∃ q, k = q + 1 := ⟨k - 1, by omega⟩
    rw [shape_Check.l0, if_neg (by omega)]
    split <;> exact ⟨_, rfl⟩
  | succ d ih =>
    intro k x i hd hi h3 hk
    obtain ⟨k, rfl⟩ : ∃ q, k = q + 1 := ⟨k - 1, by omega⟩
    rw [shape_Check.l0, if_pos (by omega), if_pos (by omega), if_pos (by omega)]
    split
    · exact ⟨_, rfl⟩
    · split
      · exact ⟨_, rfl⟩
      · have e : wrap64 ((i : Int) + 1) = ((i + 1 : Nat) : Int) := by unfold wrap64; omega
        rw [e]
        exact ih k _ (i + 1) (by omega) (by omega) h3 (by omega)
theorem gc_shape (l : List Int) : ∃ r, shape_Check.f 8 l = some r := by
  unfold shape_Check.f
  split
  · exact ⟨_, rfl⟩
  · exact gc_shape0 l l.length 8 1 0 (by omega) (by omega) (by omega) (by omega)
theorem gc_shape_len {l : List Int} (h : shape_Check.f 8 l = some true) : l.length ≤ 3 := by
  unfold shape_Check.f at h
  split at h
  · cases h
  · omega
def gkind (op : Int) : Option (Int × Int) := (kindL.find? (fun p => decide (op = p.1))).map (·.2)
def wellB (n : S36) (kd : Int × Int) : Bool := (graph_well.f 8 n.f0 n.f1 n.f2 kd.1 kd.2).getD false
theorem well_some (n : S36) (kd : Int × Int) : graph_well.f 8 n.f0 n.f1 n.f2 kd.1 kd.2 = some (wellB n kd) := by
  have : ∃ r, graph_well.f 8 n.f0 n.f1 n.f2 kd.1 kd.2 = some r := by
    unfold graph_well.f
    split
    · split
      · exact ⟨_, rfl⟩
      · rw [if_pos (by omega)]
        split
        · exact ⟨_, rfl⟩
        · split
          · exact ⟨_, rfl⟩
          · rw [if_pos (by omega)]
            obtain ⟨r, hr⟩ := gc_shape (n.f2.drop 1)
            rw [hr]
            exact ⟨_, rfl⟩
    · split
      · obtain ⟨r, hr⟩ := gc_shape n.f2
        rw [hr]
        exact ⟨_, rfl⟩
      · exact ⟨_, rfl⟩
  obtain ⟨r, hr⟩ := this
  rw [wellB, hr]
  rfl
theorem gkind_mem {op : Int} {kd : Int × Int} (h : gkind op = some kd) : (op, kd) ∈ kindL := by
  unfold gkind at h
  obtain ⟨p, hp, rfl⟩ := Option.map_eq_some_iff.1 h
  have h1 := List.mem_of_find?_eq_some hp
  have h2 := List.find?_some hp
  simp only [decide_eq_true_eq] at h2
  subst h2
  exact h1
theorem kinds_le {op : Int} {kd : Int × Int} (h : gkind op = some kd) : kd.2 ≤ 3 := by
  have : ∀ p ∈ kindL, p.2.2 ≤ 3 := by decide
  exact this _ (gkind_mem h)
theorem well_len {n : S36} {kd : Int × Int} (hk : kd.2 ≤ 3) (h : wellB n kd = true) : n.f2.length ≤ 4 := by
  have hs := well_some n kd
  rw [h] at hs
  unfold graph_well.f at hs
  split at hs
  · split at hs
    · cases hs
    · rw [if_pos (by omega)] at hs
      split at hs
      · cases hs
      · split at hs
        · cases hs
        · rw [if_pos (by omega)] at hs
          obtain ⟨r, hr⟩ := gc_shape (n.f2.drop 1)
          rw [hr] at hs
          have hs : some r = some true := hs
          cases hs
          have := gc_shape_len hr
          simp at this
          omega
  · split at hs
    · obtain ⟨r, hr⟩ := gc_shape n.f2
      rw [hr] at hs
      have hs : some r = some true := hs
      cases hs
      have := gc_shape_len hr
      omega
    · simp at hs
      omega
theorem gc_eq0 (x y : List Int) (hl : x.length = y.length) (hm : x.length ≤ 10) (d : Nat) : ∀ (k i : Nat), x.length - i = d → i ≤ x.length → d < k →
    slices_Equal_int_int.l0 k x y (x.length : Int) (i : Int) = some (decide (x.drop i = y.drop i)) := by
  induction d with
  | zero =>
    intro k i hd hi hk
    obtain ⟨k, rfl⟩ : ∃ q, k = q + 1 := ⟨k - 1, by omega⟩
    rw [slices_Equal_int_int.l0, if_neg (by omega), List.drop_eq_nil_of_le (by omega), List.drop_eq_nil_of_le (by omega)]
    simp
  | succ d ih =>
    intro k i hd hi hk
    obtain ⟨k, rfl⟩ : ∃ q, k = q + 1 := ⟨k - 1, by omega⟩
    have hx : i < x.length := by omega
    have hy : i < y.length := by omega
    have ex : rd x (i : Int) = x[i] := by simp [rd, hx]
    have ey : rd y (i : Int) = y[i] := by simp [rd, hy]
    rw [slices_Equal_int_int.l0, if_pos (by omega), if_pos (by omega), if_pos (by omega), if_pos (by omega), ex, ey, List.drop_eq_getElem_cons hx, List.drop_eq_getElem_cons hy]
    by_cases c : x[i] = y[i]
    · have ih' := ih k (i + 1) (by omega) (by omega) (by omega)
      have e : wrap64 ((i : Int) + 1) = ((i + 1 : Nat) : Int) := by unfold wrap64; omega
      rw [if_pos c, e, ih']
      simp only [c, List.cons.injEq, true_and]
    · rw [if_neg c]
      simp only [List.cons.injEq, c, false_and, decide_false]
theorem gc_eq (x y : List Int) (hm : y.length ≤ 10) : slices_Equal_int_int.f 12 x y = some (decide (x = y)) := by
  unfold slices_Equal_int_int.f
  by_cases h : x.length = y.length
  · rw [if_pos (by omega)]
    have := gc_eq0 x y h (by omega) x.length 12 0 (by omega) (by omega) (by omega)
    simpa using this
  · rw [if_neg (by omega)]
    have : x ≠ y := fun e => h (by rw [e])
    simp [this]
/-! #### the function -/
def shGet (k : Int) : List (Int × List Int) → Option (List Int)
  | [] => none
  | p :: r => if k = p.1 then some p.2 else shGet k r
def shPut (k : Int) (v : List Int) : List (Int × List Int) → List (Int × List Int)
  | [] => [(k, v)]
  | p :: r => if k = p.1 then (k, v) :: r else p :: shPut k v r
/-- A shape that must be the one that was told for this name, if there was one. -/
def gseen (at_ : Int) (s : List Int) (sh : List (Int × List Int)) : Option (List (Int × List Int)) :=
  match shGet at_ sh with
  | some o => if o = s then some (shPut at_ s sh) else none
  | none => some (shPut at_ s sh)
def gahead (i a : Int) : Bool := decide (a < 0) || decide (i ≤ a)
/-- A node more: none, if it may not be. -/
def gstep (i : Int) (n : S36) (sh : List (Int × List Int)) : Option (List (Int × List Int)) :=
  match gkind n.f0 with
  | none => none
  | some kd => if (n.f1.length : Int) = kd.1 ∧ wellB n kd = true ∧ n.f1.any (gahead i) = false then
      (if n.f0 = 1 then gseen (-1) n.f2 sh else if n.f0 = 2 then gseen (rd n.f2 0) n.f2 sh else some sh) else none
def gall : Int → List S36 → List (Int × List Int) → Bool
  | _, [], _ => true
  | i, n :: r, sh => match gstep i n sh with
    | none => false
    | some sh' => gall (i + 1) r sh'
/-- May a graph be? -/
def gchk (l0 : List S36) : Bool := gall 0 l0 [] && decide (0 < l0.length) && decide (l0.length ≤ 24)
def graph_Check.f (l0 : List S36) : Option Bool := some (gchk l0)
/-- Shapes that are told by their name, as they lie in memory. -/
def ShR (w : World) : List (Int × Value) → List (Int × List Int) → Prop
  | [], [] => True
  | p :: es, q :: sh => p.1 = q.1 ∧ (∃ A c, p.2 = .slice A q.2.length c ∧ q.2.length ≤ c ∧ Kd.C (Kd.int .i64) w A q.2.length q.2) ∧ ShR w es sh
  | _, _ => False
theorem ShR.get {w : World} (k : Int) : ∀ {es : List (Int × Value)} {sh : List (Int × List Int)}, ShR w es sh →
    (imGet k es = none ∧ shGet k sh = none) ∨ ∃ A c s, imGet k es = some (.slice A s.length c) ∧ shGet k sh = some s ∧ s.length ≤ c ∧ Kd.C (Kd.int .i64) w A s.length s
  | [], [], _ => .inl ⟨rfl, rfl⟩
  | p :: es, q :: sh, h => by
    obtain ⟨h1, ⟨A, c, h2, h3, h4⟩, h5⟩ := h
    by_cases hk : k = p.1
    · exact .inr ⟨A, c, q.2, by rw [imGet, if_pos hk, h2], by rw [shGet, if_pos (hk.trans h1)], h3, h4⟩
    · rw [imGet, if_neg hk, shGet, if_neg (by rw [← h1]; exact hk)]
      exact ShR.get k h5
  | [], _ :: _, h => h.elim
  | _ :: _, [], h => h.elim
theorem ShR.put {w : World} (k : Int) {A : Option Addr} {c : Nat} {s : List Int} (hc : s.length ≤ c) (hr : Kd.C (Kd.int .i64) w A s.length s) : ∀ {es : List (Int × Value)} {sh : List (Int × List Int)}, ShR w es sh →
    ShR w (imPut k (.slice A s.length c) es) (shPut k s sh)
  | [], [], _ => ⟨rfl, ⟨A, c, rfl, hc, hr⟩, trivial⟩
  | p :: es, q :: sh, h => by
    obtain ⟨h1, h2, h5⟩ := h
    by_cases hk : k = p.1
    · rw [imPut, if_pos hk, shPut, if_pos (hk.trans h1)]
      exact ⟨rfl, ⟨A, c, rfl, hc, hr⟩, h5⟩
    · rw [imPut, if_neg hk, shPut, if_neg (by rw [← h1]; exact hk)]
      exact ⟨h1, h2, ShR.put k hc hr h5⟩
  | [], _ :: _, h => h.elim
  | _ :: _, [], h => h.elim
theorem kindGet (op : Int) : imGet op (kindV kindL) = (gkind op).map fun p => Value.agg #[.int .i64 p.1, .int .i64 p.2] := by
  have key : ∀ l : List (Int × (Int × Int)), imGet op (kindV l) = ((l.find? (fun p => decide (op = p.1))).map (·.2)).map fun p => Value.agg #[.int .i64 p.1, .int .i64 p.2] := by
    intro l
    induction l with
    | nil => rfl
    | cons p r ih =>
      by_cases h : op = p.1
      · simp [kindV, imGet, h]
      · simp only [kindV, List.map_cons, imGet, if_neg h]
        rw [show imGet op (List.map (fun p => (p.1, Value.agg #[.int .i64 p.2.1, .int .i64 p.2.2])) r) = imGet op (kindV r) from rfl, ih, List.find?_cons_of_neg (by simpa using h)]
  exact key kindL
set_option maxHeartbeats 8000000 in
set_option maxRecDepth 100000 in
theorem ahead_calls (a i : Int) (p : Addr) (W : World) (hc : W.cell? p = some (.int .i64 i)) :
    Calls Try.prog 25 #[.int .i64 a, .pointer (some p)] W fun e w' => e = .returned (.bool (gahead i a)) ∧ Below W.heap.size W w' := by
  by_cases h0 : a < 0
  · have b0 : decide (a < 0) = true := decide_eq_true h0
    have hr : gahead i a = true := by simp [gahead, h0]
    rw [hr]
    clear h0 hr
    go_enter Try.func25, Try.ntmps25
    go_wp2
    go_ret
    exact ⟨rfl, Below.refl _ _⟩
  · have b0 : decide (a < 0) = false := decide_eq_false h0
    have hr : gahead i a = decide (i ≤ a) := by simp [gahead, h0]
    rw [hr]
    clear h0 hr
    go_enter Try.func25, Try.ntmps25
    go_wp2
    go_ret
    exact ⟨rfl, Below.refl _ _⟩
theorem name_cases {n : S36} {kd : Int × Int} (hk : gkind n.f0 = some kd) (hw : wellB n kd = true) :
    (graph_name.f n.f0 n.f1 n.f2 = some (0, false) ∧ ∀ sh, (if n.f0 = 1 then gseen (-1) n.f2 sh else if n.f0 = 2 then gseen (rd n.f2 0) n.f2 sh else some sh) = some sh) ∨
    ∃ at_, graph_name.f n.f0 n.f1 n.f2 = some (at_, true) ∧ ∀ sh, (if n.f0 = 1 then gseen (-1) n.f2 sh else if n.f0 = 2 then gseen (rd n.f2 0) n.f2 sh else some sh) = gseen at_ n.f2 sh := by
  unfold graph_name.f
  by_cases h1 : n.f0 = 1
  · rw [if_pos h1]
    exact .inr ⟨-1, rfl, fun sh => by rw [if_pos h1]⟩
  · rw [if_neg h1]
    by_cases h2 : n.f0 = 2
    · rw [if_pos h2]
      have hk2 : kd = (0, -2) := by
        rw [h2] at hk
        have : gkind 2 = some (0, -2) := by decide
        rw [this] at hk
        injection hk with hk
        exact hk.symm
      have hpos : 0 < (n.f2.length : Int) := by
        have hs := well_some n kd
        rw [hw, hk2] at hs
        unfold graph_well.f at hs
        rw [if_pos rfl] at hs
        split at hs
        · cases hs
        · omega
      rw [if_pos hpos]
      exact .inr ⟨_, rfl, fun sh => by rw [if_neg h1, if_pos h2]⟩
    · rw [if_neg h2]
      exact .inl ⟨rfl, fun sh => by rw [if_neg h1, if_neg h2]⟩
/-- The round's own variables, as they lie in memory. -/
structure GBox (wr W : World) (i x0 : Int) (v1 v2 : Value) (ka kn : Int) : Prop where
  bel : Below wr.heap.size wr W
  size : wr.heap.size + 3 ≤ W.heap.size
  ci : W.cell? ⟨wr.heap.size, 0, none⟩ = some (.int .i64 i)
  n0 : W.cell? ⟨wr.heap.size + 1, 0, none⟩ = some (.int .i64 x0)
  n1 : W.cell? ⟨wr.heap.size + 1, 1, none⟩ = some v1
  n2 : W.cell? ⟨wr.heap.size + 1, 2, none⟩ = some v2
  k0 : W.cell? ⟨wr.heap.size + 1 + 1, 0, none⟩ = some (.int .i64 ka)
  k1 : W.cell? ⟨wr.heap.size + 1 + 1, 1, none⟩ = some (.int .i64 kn)
theorem GBox.next {wr W W' : World} {i x0 : Int} {v1 v2 : Value} {ka kn : Int} (h : GBox wr W i x0 v1 v2 ka kn) (hb : Below W.heap.size W W') : GBox wr W' i x0 v1 v2 ka kn :=
  have hs := h.size
  ⟨below_step h.bel hb, Nat.le_trans hs hb.size, pw_cell_below hb h.ci, pw_cell_below hb h.n0, pw_cell_below hb h.n1, pw_cell_below hb h.n2, pw_cell_below hb h.k0, pw_cell_below hb h.k1⟩
theorem GBox.start (wr : World) (i x0 : Int) (v1 v2 : Value) (ka kn : Int) (t u v : TypeId) :
    GBox wr (((wr.alloc (.cells #[.int .i64 i] t)).alloc (.cells #[.int .i64 x0, v1, v2] u)).alloc (.cells #[.int .i64 ka, .int .i64 kn] v)) i x0 v1 v2 ka kn := by
  refine ⟨below_alloc (below_alloc (below_alloc (Below.refl _ _) _) _) _, by simp, ?_, ?_, ?_, ?_, ?_, ?_⟩
  · rw [World.cell?_alloc_past _ _ _ (by simp; omega), World.cell?_alloc_past _ _ _ (by simp), World.cell?_alloc_at _ _ _ _ rfl]; rfl
  · rw [World.cell?_alloc_past _ _ _ (by simp), World.cell?_alloc_at _ _ _ _ (by simp)]; rfl
  · rw [World.cell?_alloc_past _ _ _ (by simp), World.cell?_alloc_at _ _ _ _ (by simp)]; rfl
  · rw [World.cell?_alloc_past _ _ _ (by simp), World.cell?_alloc_at _ _ _ _ (by simp)]; rfl
  · rw [World.cell?_alloc_at _ _ _ _ (by simp)]; rfl
  · rw [World.cell?_alloc_at _ _ _ _ (by simp)]; rfl
/-- What holds of the world ahead of a round. -/
structure GInv (w : World) (bk : Nat) (n1 : Nat) (wr : World) (es : List (Int × Value)) (sh : List (Int × List Int)) : Prop where
  bel : Below w.heap.size w wr
  size : w.heap.size ≤ bk ∧ bk < n1 ∧ n1 < wr.heap.size
  kinds : IM wr bk (kindV kindL)
  im : IM wr n1 es
  sh : ShR w es sh
set_option maxHeartbeats 8000000 in
set_option maxRecDepth 100000 in
theorem graph_Check.calls (A0 : Option Addr) (c0 : Nat) (l0 : List S36) (r : Bool) (w : World) (hr0 : Kd.C k36 w A0 l0.length l0) (hc0 : l0.length ≤ c0) (h : graph_Check.f l0 = some r) :
    Calls Try.prog 14 #[.slice A0 l0.length c0] w fun e w' => e = .returned (.bool r) ∧ Below w.heap.size w w' := by
  unfold graph_Check.f at h
  replace h := Option.some.inj h
  unfold gchk at h
  have HR := Aside0.mk hr0
  have HH := Aside0.mk h
  have hbig := hr0.2.1
  have hmm := @run_makeMap Try.prog
  clear hr0 h hc0
  go_enter Try.func14, Try.ntmps14
  go_wp2_with (go_at_call 24; (with_reducible refine (graph_kinds.calls _).mono ?_); rintro e w1 ⟨bk, rfl, hk1, hk2, hk3, hb1⟩; have HK3 := Aside0.mk hk3; have HB1 := Aside0.mk hb1; clear hk3 hb1)
  have HI : Aside0 (GInv w bk w1.heap.size (w1.alloc (.map #[] 0)) [] []) := ⟨below_alloc HB1.out _, ⟨hk1, hk2, by simp⟩, HK3.out.below (B := w1.heap.size) ((Below.refl _ _).alloc (Nat.le_refl _) _) hk2, IM.made w1, trivial⟩
  have hz49 : ∀ W : World, (zeroValue 49).run Try.prog W = .ok (.agg #[.int .i64 0, .int .i64 0]) W := fun W => by kernel_rfl
  have hz34 : ∀ W : World, (zeroValue 34).run Try.prog W = .ok (.slice none 0 0) W := fun W => by kernel_rfl
  go_loopg [18] l0.length (fun gg s18 wr => ∃ (kk : Nat) (es : List (Int × Value)) (sh : List (Int × List Int)), s18 = .int .i64 kk ∧ Aside0 (kk ≤ l0.length ∧ l0.length - kk ≤ gg) ∧ Aside0 (GInv w bk w1.heap.size wr es sh) ∧ Aside0 (gall 0 l0 [] = gall kk (l0.drop kk) sh))
  case atStart => exact ⟨0, [], [], rfl, ⟨Nat.zero_le _, by omega⟩, HI, ⟨rfl⟩⟩
  case round =>
    obtain ⟨kk, es, sh, rfl, HK, HG, HA⟩ := hrel
    clear HI
    by_cases hlt : kk < l0.length
    · have hltz : (kk : Int) < (l0.length : Int) := by omega
      have hbz : decide ((kk : Int) < (l0.length : Int)) = true := decide_eq_true hltz
      obtain ⟨ad, A1, c1, A2, c2, eA, hx0, hx1, hx2, hl1, hi1, hl2, hi2⟩ := at_T36 HR.out (kk : Int) (by omega) hltz
      replace hx0 := pw_cell_below HG.out.bel hx0
      replace hx1 := pw_cell_below HG.out.bel hx1
      replace hx2 := pw_cell_below HG.out.bel hx2
      simp only [Int.toNat_natCast] at hx0 hx1 hx2
      obtain ⟨n, hn⟩ : ∃ n, n = rd_T36 l0 (kk : Int) := ⟨_, rfl⟩
      have hd : l0.drop kk = n :: l0.drop (kk + 1) := by
        rw [List.drop_eq_getElem_cons hlt, hn]
        simp [rd_T36, hlt]
      rw [← hn] at hx0 hx1 hx2 hl1 hi1 hl2 hi2
      subst eA
      have HB := Aside0.mk HG.out.bel
      have HS := Aside0.mk HG.out.size
      have HKI := Aside0.mk HG.out.kinds
      have HIM := Aside0.mk HG.out.im
      have HSH := Aside0.mk HG.out.sh
      rw [hd] at HA
      have HI1 := Aside0.mk (Kd.C_below hi1 HB.out)
      have HI2 := Aside0.mk (Kd.C_below hi2 HB.out)
      have HI2w := Aside0.mk hi2
      have HL1 := Aside0.mk hl1
      have HL2 := Aside0.mk hl2
      have HKL := Aside0.mk (show bk < wr.heap.size by have := HG.out.size; omega)
      clear hd hn hi1 hi2 hl1 hl2 HG hk1 hk2 HK3 HB1
      cases hg : gkind n.f0 with
      | none =>
        have hget := kindGet n.f0
        rw [hg] at hget
        have HGET := Aside0.mk hget
        obtain rfl : r = false := by
          rw [← HH.out, HA.out]
          simp [gall, gstep, hg]
        clear hg hget
        go_wp2_with (with_reducible refine wpList_im_miss (o := ⟨_, .lookup 45 _ _ true, _, _, _, _⟩) rfl _ _ rfl Try.underlying45 Try.underlying3 (hz49 _) _ HGET.out (HKI.out.below (below_alloc (below_alloc (Below.refl _ _) _) _) HKL.out) rfl rfl ?_)
        go_ret
        exact ⟨rfl, below_alloc (below_alloc (below_alloc HB.out _) _) _⟩
      | some kd =>
        obtain ⟨ka, kn⟩ := kd
        have hget := kindGet n.f0
        rw [hg] at hget
        have HGET := Aside0.mk hget
        have HGK := Aside0.mk hg
        have HW := Aside0.mk (well_some n (ka, kn))
        clear hg hget
        by_cases ha : (n.f1.length : Int) = ka
        · have hb0 : ((n.f1.length : Int) == ka) = true := beq_iff_eq.mpr ha
          have hb1 : ((n.f1.length : Int) != ka) = false := bne_eq_false_iff_eq.mpr ha
          have HLA := Aside0.mk ha
          clear ha
          have HX := Aside0.mk (GBox.start wr kk n.f0 (.slice A1 n.f1.length c1) (.slice A2 n.f2.length c2) ka kn 3 36 49)
          cases hw : wellB n (ka, kn) with
          | false =>
            rw [hw] at HW
            obtain rfl : r = false := by
              rw [← HH.out, HA.out]
              simp [gall, gstep, HGK.out, hw]
            clear hw
            go_wp2_with (first | (with_reducible refine wpList_im_hit (o := ⟨_, .lookup 45 _ _ true, _, _, _, _⟩) rfl _ _ rfl Try.underlying45 Try.underlying3 (hz49 _) _ _ HGET.out (HKI.out.below (below_alloc (below_alloc (Below.refl _ _) _) _) HKL.out) rfl rfl ?_) | (go_at_call 26; (with_reducible refine (graph_well.calls 8 n.f0 A1 c1 n.f1 A2 c2 n.f2 ka kn _ _ ?s1 HL1.out ?s2 HL2.out HW.out).mono ?_); (case s1 => exact Kd.C_below HI1.out HX.out.bel); (case s2 => exact Kd.C_below HI2.out HX.out.bel); rintro e w2 ⟨rfl, hb⟩; have hn_ := Aside0.mk (HX.out.next hb); clear HX hb; have HX := hn_; clear hn_; (try clear ci n0 n1 n2 k0 k1); have ci := HX.out.ci; have n0 := HX.out.n0; have n1 := HX.out.n1; have n2 := HX.out.n2; have k0 := HX.out.k0; have k1 := HX.out.k1))
            go_ret
            exact ⟨rfl, below_step HB.out HX.out.bel⟩
          | true =>
            rw [hw] at HW
            have HWT := Aside0.mk hw
            clear hw
            cases hany : n.f1.any (gahead kk) with
            | true =>
              obtain rfl : r = false := by
                rw [← HH.out, HA.out]
                simp [gall, gstep, HGK.out, hany]
              have HANY := Aside0.mk hany
              clear hany
              go_wp2_with (first | (with_reducible refine wpList_im_hit (o := ⟨_, .lookup 45 _ _ true, _, _, _, _⟩) rfl _ _ rfl Try.underlying45 Try.underlying3 (hz49 _) _ _ HGET.out (HKI.out.below (below_alloc (below_alloc (Below.refl _ _) _) _) HKL.out) rfl rfl ?_) | (go_at_call 26; (with_reducible refine (graph_well.calls 8 n.f0 A1 c1 n.f1 A2 c2 n.f2 ka kn _ _ ?s1 HL1.out ?s2 HL2.out HW.out).mono ?_); (case s1 => exact Kd.C_below HI1.out HX.out.bel); (case s2 => exact Kd.C_below HI2.out HX.out.bel); rintro e w2 ⟨rfl, hb⟩; have hn_ := Aside0.mk (HX.out.next hb); clear HX hb; have HX := hn_; clear hn_; (try clear ci n0 n1 n2 k0 k1); have ci := HX.out.ci; have n0 := HX.out.n0; have n1 := HX.out.n1; have n2 := HX.out.n2; have k0 := HX.out.k0; have k1 := HX.out.k1) | (go_at_call 27; (with_reducible refine (slices_ContainsFunc_int_int.by_ (gahead kk) 25 #[.pointer (some ⟨wr.heap.size, 0, none⟩)] A1 c1 n.f1 _ ?s1 ?s2 ?s3).mono ?_); (case s1 => exact Kd.C_below HI1.out HX.out.bel); (case s2 => exact enters_ Try.prog Try.func25 (by kernel_rfl) rfl); (case s3 => exact fun W x _ hb => ahead_calls x kk ⟨wr.heap.size, 0, none⟩ W (pw_cell_below hb HX.out.ci)); rintro e w3 ⟨rfl, hb⟩; rw [HANY.out]; have hn_ := Aside0.mk (HX.out.next hb); clear HX hb; have HX := hn_; clear hn_; (try clear ci n0 n1 n2 k0 k1); have ci := HX.out.ci; have n0 := HX.out.n0; have n1 := HX.out.n1; have n2 := HX.out.n2; have k0 := HX.out.k0; have k1 := HX.out.k1))
              go_ret
              exact ⟨rfl, below_step HB.out HX.out.bel⟩
            | false =>
              have HANY := Aside0.mk hany
              have HNL := Aside0.mk (show w1.heap.size < wr.heap.size from HS.out.2.2)
              clear hany
              rcases name_cases HGK.out HWT.out with ⟨hn, hnm⟩ | ⟨at_, hn, hnm⟩
              · have HN := Aside0.mk hn
                have HNM := Aside0.mk hnm
                clear hn hnm
                go_wp2_with (first | (with_reducible refine wpList_im_hit (o := ⟨_, .lookup 45 _ _ true, _, _, _, _⟩) rfl _ _ rfl Try.underlying45 Try.underlying3 (hz49 _) _ _ HGET.out (HKI.out.below (below_alloc (below_alloc (Below.refl _ _) _) _) HKL.out) rfl rfl ?_) | (go_at_call 26; (with_reducible refine (graph_well.calls 8 n.f0 A1 c1 n.f1 A2 c2 n.f2 ka kn _ _ ?s1 HL1.out ?s2 HL2.out HW.out).mono ?_); (case s1 => exact Kd.C_below HI1.out HX.out.bel); (case s2 => exact Kd.C_below HI2.out HX.out.bel); rintro e w2 ⟨rfl, hb⟩; have hn_ := Aside0.mk (HX.out.next hb); clear HX hb; have HX := hn_; clear hn_; (try clear ci n0 n1 n2 k0 k1); have ci := HX.out.ci; have n0 := HX.out.n0; have n1 := HX.out.n1; have n2 := HX.out.n2; have k0 := HX.out.k0; have k1 := HX.out.k1) | (go_at_call 27; (with_reducible refine (slices_ContainsFunc_int_int.by_ (gahead kk) 25 #[.pointer (some ⟨wr.heap.size, 0, none⟩)] A1 c1 n.f1 _ ?s1 ?s2 ?s3).mono ?_); (case s1 => exact Kd.C_below HI1.out HX.out.bel); (case s2 => exact enters_ Try.prog Try.func25 (by kernel_rfl) rfl); (case s3 => exact fun W x _ hb => ahead_calls x kk ⟨wr.heap.size, 0, none⟩ W (pw_cell_below hb HX.out.ci)); rintro e w3 ⟨rfl, hb⟩; rw [HANY.out]; have hn_ := Aside0.mk (HX.out.next hb); clear HX hb; have HX := hn_; clear hn_; (try clear ci n0 n1 n2 k0 k1); have ci := HX.out.ci; have n0 := HX.out.n0; have n1 := HX.out.n1; have n2 := HX.out.n2; have k0 := HX.out.k0; have k1 := HX.out.k1) | (go_at_call 28; (with_reducible refine (graph_name.calls n.f0 A1 c1 n.f1 A2 c2 n.f2 _ _ _ ?s1 HL1.out ?s2 HL2.out HN.out).mono ?_); (case s1 => exact Kd.C_below HI1.out HX.out.bel); (case s2 => exact Kd.C_below HI2.out HX.out.bel); rintro e w4 ⟨rfl, hb⟩; have hn_ := Aside0.mk (HX.out.next hb); clear HX hb; have HX := hn_; clear hn_; (try clear ci n0 n1 n2 k0 k1); have ci := HX.out.ci; have n0 := HX.out.n0; have n1 := HX.out.n1; have n2 := HX.out.n2; have k0 := HX.out.k0; have k1 := HX.out.k1))
                go_roundg (l0.length - (kk + 1))
                case measure => have := HK.out; omega
                case rel =>
                  refine ⟨kk + 1, es, sh, by go_num, ⟨by have := HK.out; omega, by omega⟩, ⟨below_step HB.out HX.out.bel, ⟨HS.out.1, HS.out.2.1, Nat.lt_of_lt_of_le HNL.out HX.out.bel.size⟩, HKI.out.below HX.out.bel HKL.out, HIM.out.below HX.out.bel HNL.out, HSH.out⟩, ⟨?_⟩⟩
                  rw [HA.out, gall, gstep, HGK.out]
                  simp only [HLA.out, HWT.out, HANY.out, and_self, if_true, HNM.out]
                  norm_cast
              · have HN := Aside0.mk hn
                have HNM := Aside0.mk hnm
                clear hn hnm
                rcases HSH.out.get at_ with ⟨h1, h2⟩ | ⟨As, cs, s, h1, h2, h3, h4⟩
                · have HSG := Aside0.mk h1
                  have HSE := Aside0.mk (show ∀ s, gseen at_ s sh = some (shPut at_ s sh) from fun s => by rw [gseen, h2])
                  clear h1 h2
                  go_wp2_with (first | (with_reducible refine wpList_im_hit (o := ⟨_, .lookup 45 _ _ true, _, _, _, _⟩) rfl _ _ rfl Try.underlying45 Try.underlying3 (hz49 _) _ _ HGET.out (HKI.out.below (below_alloc (below_alloc (Below.refl _ _) _) _) HKL.out) rfl rfl ?_) | (go_at_call 26; (with_reducible refine (graph_well.calls 8 n.f0 A1 c1 n.f1 A2 c2 n.f2 ka kn _ _ ?s1 HL1.out ?s2 HL2.out HW.out).mono ?_); (case s1 => exact Kd.C_below HI1.out HX.out.bel); (case s2 => exact Kd.C_below HI2.out HX.out.bel); rintro e w2 ⟨rfl, hb⟩; have hn_ := Aside0.mk (HX.out.next hb); clear HX hb; have HX := hn_; clear hn_; (try clear ci n0 n1 n2 k0 k1); have ci := HX.out.ci; have n0 := HX.out.n0; have n1 := HX.out.n1; have n2 := HX.out.n2; have k0 := HX.out.k0; have k1 := HX.out.k1) | (go_at_call 27; (with_reducible refine (slices_ContainsFunc_int_int.by_ (gahead kk) 25 #[.pointer (some ⟨wr.heap.size, 0, none⟩)] A1 c1 n.f1 _ ?s1 ?s2 ?s3).mono ?_); (case s1 => exact Kd.C_below HI1.out HX.out.bel); (case s2 => exact enters_ Try.prog Try.func25 (by kernel_rfl) rfl); (case s3 => exact fun W x _ hb => ahead_calls x kk ⟨wr.heap.size, 0, none⟩ W (pw_cell_below hb HX.out.ci)); rintro e w3 ⟨rfl, hb⟩; rw [HANY.out]; have hn_ := Aside0.mk (HX.out.next hb); clear HX hb; have HX := hn_; clear hn_; (try clear ci n0 n1 n2 k0 k1); have ci := HX.out.ci; have n0 := HX.out.n0; have n1 := HX.out.n1; have n2 := HX.out.n2; have k0 := HX.out.k0; have k1 := HX.out.k1) | (go_at_call 28; (with_reducible refine (graph_name.calls n.f0 A1 c1 n.f1 A2 c2 n.f2 _ _ _ ?s1 HL1.out ?s2 HL2.out HN.out).mono ?_); (case s1 => exact Kd.C_below HI1.out HX.out.bel); (case s2 => exact Kd.C_below HI2.out HX.out.bel); rintro e w4 ⟨rfl, hb⟩; have hn_ := Aside0.mk (HX.out.next hb); clear HX hb; have HX := hn_; clear hn_; (try clear ci n0 n1 n2 k0 k1); have ci := HX.out.ci; have n0 := HX.out.n0; have n1 := HX.out.n1; have n2 := HX.out.n2; have k0 := HX.out.k0; have k1 := HX.out.k1) | (with_reducible refine wpList_im_miss (o := ⟨_, .lookup 47 _ _ true, _, _, _, _⟩) rfl _ _ rfl Try.underlying47 Try.underlying3 (hz34 _) _ HSG.out (HIM.out.below HX.out.bel HNL.out) rfl rfl ?_) | ((with_reducible refine wpList_im_put (o := ⟨none, .mapUpdate 47 _ _ _, _, _, _, _⟩) rfl _ _ _ (Or.inr rfl) Try.underlying47 Try.underlying3 _ _ (HIM.out.below HX.out.bel HNL.out) rfl rfl rfl ?_); intro w6 him hgr; have HIM6 := Aside0.mk him; have HGR := Aside0.mk hgr; clear him hgr))
                  go_roundg (l0.length - (kk + 1))
                  case measure => have := HK.out; omega
                  case rel =>
                    have hbel := below_step HB.out HX.out.bel
                    have hlt6 := Nat.lt_of_lt_of_le HNL.out HX.out.bel.size
                    refine ⟨kk + 1, _, shPut at_ n.f2 sh, by go_num, ⟨by have := HK.out; omega, by omega⟩, ⟨hbel.grown HGR.out (Nat.le_trans HB.out.size HX.out.bel.size) (fun k hk => by injection hk with hk; have := HS.out; omega), ⟨HS.out.1, HS.out.2.1, Nat.lt_of_lt_of_le hlt6 HGR.out.size⟩, (HKI.out.below HX.out.bel HKL.out).keep (HGR.out.block bk (Nat.lt_of_lt_of_le HKL.out HX.out.bel.size) (by have := HS.out.2.1; simp; omega)), HIM6.out, HSH.out.put at_ HL2.out HI2w.out⟩, ⟨?_⟩⟩
                    rw [HA.out, gall, gstep, HGK.out]
                    simp only [HLA.out, HWT.out, HANY.out, and_self, if_true, HNM.out, HSE.out]
                    norm_cast
                · have HSG := Aside0.mk h1
                  have HSC := Aside0.mk h3
                  have HSR := Aside0.mk h4
                  have hlen := well_len (kinds_le HGK.out) HWT.out
                  have hlen10 : n.f2.length ≤ 10 := by omega
                  by_cases hs : s = n.f2
                  · have HSE := Aside0.mk (show gseen at_ n.f2 sh = some (shPut at_ n.f2 sh) by rw [gseen, h2]; simp only [hs, if_true])
                    have HEQ := Aside0.mk (gc_eq s n.f2 hlen10)
                    have HDE := Aside0.mk (show decide (s = n.f2) = true from decide_eq_true hs)
                    clear h1 h2 h3 h4 hs hlen hlen10
                    go_wp2_with (first | (with_reducible refine wpList_im_hit (o := ⟨_, .lookup 45 _ _ true, _, _, _, _⟩) rfl _ _ rfl Try.underlying45 Try.underlying3 (hz49 _) _ _ HGET.out (HKI.out.below (below_alloc (below_alloc (Below.refl _ _) _) _) HKL.out) rfl rfl ?_) | (go_at_call 26; (with_reducible refine (graph_well.calls 8 n.f0 A1 c1 n.f1 A2 c2 n.f2 ka kn _ _ ?s1 HL1.out ?s2 HL2.out HW.out).mono ?_); (case s1 => exact Kd.C_below HI1.out HX.out.bel); (case s2 => exact Kd.C_below HI2.out HX.out.bel); rintro e w2 ⟨rfl, hb⟩; have hn_ := Aside0.mk (HX.out.next hb); clear HX hb; have HX := hn_; clear hn_; (try clear ci n0 n1 n2 k0 k1); have ci := HX.out.ci; have n0 := HX.out.n0; have n1 := HX.out.n1; have n2 := HX.out.n2; have k0 := HX.out.k0; have k1 := HX.out.k1) | (go_at_call 27; (with_reducible refine (slices_ContainsFunc_int_int.by_ (gahead kk) 25 #[.pointer (some ⟨wr.heap.size, 0, none⟩)] A1 c1 n.f1 _ ?s1 ?s2 ?s3).mono ?_); (case s1 => exact Kd.C_below HI1.out HX.out.bel); (case s2 => exact enters_ Try.prog Try.func25 (by kernel_rfl) rfl); (case s3 => exact fun W x _ hb => ahead_calls x kk ⟨wr.heap.size, 0, none⟩ W (pw_cell_below hb HX.out.ci)); rintro e w3 ⟨rfl, hb⟩; rw [HANY.out]; have hn_ := Aside0.mk (HX.out.next hb); clear HX hb; have HX := hn_; clear hn_; (try clear ci n0 n1 n2 k0 k1); have ci := HX.out.ci; have n0 := HX.out.n0; have n1 := HX.out.n1; have n2 := HX.out.n2; have k0 := HX.out.k0; have k1 := HX.out.k1) | (go_at_call 28; (with_reducible refine (graph_name.calls n.f0 A1 c1 n.f1 A2 c2 n.f2 _ _ _ ?s1 HL1.out ?s2 HL2.out HN.out).mono ?_); (case s1 => exact Kd.C_below HI1.out HX.out.bel); (case s2 => exact Kd.C_below HI2.out HX.out.bel); rintro e w4 ⟨rfl, hb⟩; have hn_ := Aside0.mk (HX.out.next hb); clear HX hb; have HX := hn_; clear hn_; (try clear ci n0 n1 n2 k0 k1); have ci := HX.out.ci; have n0 := HX.out.n0; have n1 := HX.out.n1; have n2 := HX.out.n2; have k0 := HX.out.k0; have k1 := HX.out.k1) | (with_reducible refine wpList_im_hit (o := ⟨_, .lookup 47 _ _ true, _, _, _, _⟩) rfl _ _ rfl Try.underlying47 Try.underlying3 (hz34 _) _ _ HSG.out (HIM.out.below HX.out.bel HNL.out) rfl rfl ?_) | (go_at_call 29; (with_reducible refine (slices_Equal_int_int.calls 12 As cs s A2 c2 n.f2 _ _ ?s1 HSC.out ?s2 HL2.out HEQ.out).mono ?_); (case s1 => exact Kd.C_below HSR.out (below_step HB.out HX.out.bel)); (case s2 => exact Kd.C_below HI2.out HX.out.bel); rintro e w5 ⟨rfl, hd⟩; rw [HDE.out]; have hb := hd.below; clear hd; have hn_ := Aside0.mk (HX.out.next hb); clear HX hb; have HX := hn_; clear hn_; (try clear ci n0 n1 n2 k0 k1); have ci := HX.out.ci; have n0 := HX.out.n0; have n1 := HX.out.n1; have n2 := HX.out.n2; have k0 := HX.out.k0; have k1 := HX.out.k1) | ((with_reducible refine wpList_im_put (o := ⟨none, .mapUpdate 47 _ _ _, _, _, _, _⟩) rfl _ _ _ (Or.inr rfl) Try.underlying47 Try.underlying3 _ _ (HIM.out.below HX.out.bel HNL.out) rfl rfl rfl ?_); intro w6 him hgr; have HIM6 := Aside0.mk him; have HGR := Aside0.mk hgr; clear him hgr))
                    go_roundg (l0.length - (kk + 1))
                    case measure => have := HK.out; omega
                    case rel =>
                      have hbel := below_step HB.out HX.out.bel
                      have hlt6 := Nat.lt_of_lt_of_le HNL.out HX.out.bel.size
                      refine ⟨kk + 1, _, shPut at_ n.f2 sh, by go_num, ⟨by have := HK.out; omega, by omega⟩, ⟨hbel.grown HGR.out (Nat.le_trans HB.out.size HX.out.bel.size) (fun k hk => by injection hk with hk; have := HS.out; omega), ⟨HS.out.1, HS.out.2.1, Nat.lt_of_lt_of_le hlt6 HGR.out.size⟩, (HKI.out.below HX.out.bel HKL.out).keep (HGR.out.block bk (Nat.lt_of_lt_of_le HKL.out HX.out.bel.size) (by have := HS.out.2.1; simp; omega)), HIM6.out, HSH.out.put at_ HL2.out HI2w.out⟩, ⟨?_⟩⟩
                      rw [HA.out, gall, gstep, HGK.out]
                      simp only [HLA.out, HWT.out, HANY.out, and_self, if_true, HNM.out, HSE.out]
                      norm_cast
                  · have hgs : gseen at_ n.f2 sh = none := by rw [gseen, h2]; simp only [hs, if_false]
                    have HEQ := Aside0.mk (gc_eq s n.f2 hlen10)
                    have HDE := Aside0.mk (show decide (s = n.f2) = false from decide_eq_false hs)
                    obtain rfl : r = false := by
                      rw [← HH.out, HA.out, gall, gstep, HGK.out]
                      simp only [HLA.out, HWT.out, HANY.out, and_self, if_true, HNM.out, hgs, Bool.false_and]
                    clear h1 h2 h3 h4 hs hlen hlen10 hgs
                    go_wp2_with (first | (with_reducible refine wpList_im_hit (o := ⟨_, .lookup 45 _ _ true, _, _, _, _⟩) rfl _ _ rfl Try.underlying45 Try.underlying3 (hz49 _) _ _ HGET.out (HKI.out.below (below_alloc (below_alloc (Below.refl _ _) _) _) HKL.out) rfl rfl ?_) | (go_at_call 26; (with_reducible refine (graph_well.calls 8 n.f0 A1 c1 n.f1 A2 c2 n.f2 ka kn _ _ ?s1 HL1.out ?s2 HL2.out HW.out).mono ?_); (case s1 => exact Kd.C_below HI1.out HX.out.bel); (case s2 => exact Kd.C_below HI2.out HX.out.bel); rintro e w2 ⟨rfl, hb⟩; have hn_ := Aside0.mk (HX.out.next hb); clear HX hb; have HX := hn_; clear hn_; (try clear ci n0 n1 n2 k0 k1); have ci := HX.out.ci; have n0 := HX.out.n0; have n1 := HX.out.n1; have n2 := HX.out.n2; have k0 := HX.out.k0; have k1 := HX.out.k1) | (go_at_call 27; (with_reducible refine (slices_ContainsFunc_int_int.by_ (gahead kk) 25 #[.pointer (some ⟨wr.heap.size, 0, none⟩)] A1 c1 n.f1 _ ?s1 ?s2 ?s3).mono ?_); (case s1 => exact Kd.C_below HI1.out HX.out.bel); (case s2 => exact enters_ Try.prog Try.func25 (by kernel_rfl) rfl); (case s3 => exact fun W x _ hb => ahead_calls x kk ⟨wr.heap.size, 0, none⟩ W (pw_cell_below hb HX.out.ci)); rintro e w3 ⟨rfl, hb⟩; rw [HANY.out]; have hn_ := Aside0.mk (HX.out.next hb); clear HX hb; have HX := hn_; clear hn_; (try clear ci n0 n1 n2 k0 k1); have ci := HX.out.ci; have n0 := HX.out.n0; have n1 := HX.out.n1; have n2 := HX.out.n2; have k0 := HX.out.k0; have k1 := HX.out.k1) | (go_at_call 28; (with_reducible refine (graph_name.calls n.f0 A1 c1 n.f1 A2 c2 n.f2 _ _ _ ?s1 HL1.out ?s2 HL2.out HN.out).mono ?_); (case s1 => exact Kd.C_below HI1.out HX.out.bel); (case s2 => exact Kd.C_below HI2.out HX.out.bel); rintro e w4 ⟨rfl, hb⟩; have hn_ := Aside0.mk (HX.out.next hb); clear HX hb; have HX := hn_; clear hn_; (try clear ci n0 n1 n2 k0 k1); have ci := HX.out.ci; have n0 := HX.out.n0; have n1 := HX.out.n1; have n2 := HX.out.n2; have k0 := HX.out.k0; have k1 := HX.out.k1) | (with_reducible refine wpList_im_hit (o := ⟨_, .lookup 47 _ _ true, _, _, _, _⟩) rfl _ _ rfl Try.underlying47 Try.underlying3 (hz34 _) _ _ HSG.out (HIM.out.below HX.out.bel HNL.out) rfl rfl ?_) | (go_at_call 29; (with_reducible refine (slices_Equal_int_int.calls 12 As cs s A2 c2 n.f2 _ _ ?s1 HSC.out ?s2 HL2.out HEQ.out).mono ?_); (case s1 => exact Kd.C_below HSR.out (below_step HB.out HX.out.bel)); (case s2 => exact Kd.C_below HI2.out HX.out.bel); rintro e w5 ⟨rfl, hd⟩; rw [HDE.out]; have hb := hd.below; clear hd; have hn_ := Aside0.mk (HX.out.next hb); clear HX hb; have HX := hn_; clear hn_; (try clear ci n0 n1 n2 k0 k1); have ci := HX.out.ci; have n0 := HX.out.n0; have n1 := HX.out.n1; have n2 := HX.out.n2; have k0 := HX.out.k0; have k1 := HX.out.k1))
                    go_ret
                    exact ⟨rfl, below_step HB.out HX.out.bel⟩
        · have hb0 : ((n.f1.length : Int) == ka) = false := beq_eq_false_iff_ne.mpr ha
          have hb1 : ((n.f1.length : Int) != ka) = true := bne_iff_ne.mpr ha
          obtain rfl : r = false := by
            rw [← HH.out, HA.out]
            simp [gall, gstep, HGK.out, ha]
          clear ha
          go_wp2_with (with_reducible refine wpList_im_hit (o := ⟨_, .lookup 45 _ _ true, _, _, _, _⟩) rfl _ _ rfl Try.underlying45 Try.underlying3 (hz49 _) _ _ HGET.out (HKI.out.below (below_alloc (below_alloc (Below.refl _ _) _) _) HKL.out) rfl rfl ?_)
          go_ret
          exact ⟨rfl, below_alloc (below_alloc (below_alloc HB.out _) _) _⟩
    · have hke : kk = l0.length := by have := HK.out; omega
      have hbz : decide ((kk : Int) < (l0.length : Int)) = false := decide_eq_false (by omega)
      have hbz2 : decide (kk < l0.length) = false := decide_eq_false hlt
      have hga : gall 0 l0 [] = true := by
        rw [HA.out, hke, List.drop_length]
        rfl
      have HB := Aside0.mk HG.out.bel
      have HGA := Aside0.mk hga
      clear hga hke HA HG hk1 hk2 HK3 HB1 hlt
      by_cases hp : 0 < l0.length
      · have d1 : decide (0 < (l0.length : Int)) = true := decide_eq_true (by omega)
        have d2 : decide (0 < l0.length) = true := decide_eq_true hp
        by_cases h24 : l0.length ≤ 24
        · have d3 : decide ((l0.length : Int) ≤ 24) = true := decide_eq_true (by omega)
          have d4 : decide (l0.length ≤ 24) = true := decide_eq_true h24
          obtain rfl : r = true := by rw [← HH.out, HGA.out, d2, d4]; rfl
          clear hp h24
          go_wp2
          go_ret
          exact ⟨rfl, HB.out⟩
        · have d3 : decide ((l0.length : Int) ≤ 24) = false := decide_eq_false (by omega)
          have d4 : decide (l0.length ≤ 24) = false := decide_eq_false h24
          obtain rfl : r = false := by rw [← HH.out, HGA.out, d2, d4]; rfl
          clear hp h24
          go_wp2
          go_ret
          exact ⟨rfl, HB.out⟩
      · have d1 : decide (0 < (l0.length : Int)) = false := decide_eq_false (by omega)
        have d2 : decide (0 < l0.length) = false := decide_eq_false hp
        obtain rfl : r = false := by rw [← HH.out, HGA.out, d2]; rfl
        clear hp
        go_wp2
        go_ret
        exact ⟨rfl, HB.out⟩


/-! ### wire_put: function 15 -/
def wire_put.l0 : Nat → List Int → List Int → Int → Int → Option (List Int)
  | 0, _, _, _, _ => none
  | k + 1, x0, x7, x8, x9 => if x9 < x8 then (if 0 ≤ x9 then (if x9 < (x7.length : Int) then (if x0.length < 140737488355328 then (wire_put.l0 k (x0 ++ [(rd x7 x9) % 256]) x7 x8 (wrap64 (x9 + 1))) else (none)) else (none)) else (none)) else (some x0)
def wire_put.f (k : Nat) (l0 : List Int) (l1 : List Int) : Option (List Int) := wire_put.l0 k l0 l1 (l1.length : Int) 0
theorem wire_put.mono_l : ∀ k, (∀ y0 y1 y2 y3, LeO (wire_put.l0 k y0 y1 y2 y3) (wire_put.l0 (k + 1) y0 y1 y2 y3))
  | 0 => fun _ _ _ _ r h => by simp [wire_put.l0] at h
  | k + 1 => by
    have ih0 := wire_put.mono_l k
    · intro y0 y1 y2 y3
      unfold wire_put.l0
      repeat' first
      | (with_reducible exact ih0 _ _ _ _)
      | (with_reducible exact LeO.refl _)
      | (with_reducible exact LeO.none _)
      | (with_reducible refine LeO.ite ?_ ?_)
      | (with_reducible refine LeO.bind ?_ (fun _ => ?_))
      | exact ih0 _ _ _ _
      | exact LeO.none _
      | refine LeO.ite ?_ ?_
      | refine LeO.bind ?_ (fun _ => ?_)
theorem wire_put.mono : ∀ a0 a1 k, LeO (wire_put.f k a0 a1) (wire_put.f (k + 1) a0 a1) := by
  intro a0 a1 k
  have ih0 := wire_put.mono_l k
  unfold wire_put.f
  repeat' first
      | (with_reducible exact ih0 _ _ _ _)
      | (with_reducible exact LeO.refl _)
      | (with_reducible exact LeO.none _)
      | (with_reducible refine LeO.ite ?_ ?_)
      | (with_reducible refine LeO.bind ?_ (fun _ => ?_))
      | exact ih0 _ _ _ _
      | exact LeO.none _
      | refine LeO.ite ?_ ?_
      | refine LeO.bind ?_ (fun _ => ?_)
set_option maxHeartbeats 8000000 in
set_option maxRecDepth 100000 in
theorem wire_put.calls (k : Nat) (P0_ : Nat → Prop) (u9000_ : Value) (l0 : List Int) (A1 : Option Addr) (c1 : Nat) (l1 : List Int) (r : List Int) (w0 w : World) (hB : Below w0.heap.size w0 w) (ho0 : Kd.R (Kd.int .u8) 5 w w0.heap.size P0_ u9000_ l0) (hr1 : ∀ W_, Kept w W_ (fun k_ => P0_ k_) → Kd.C (Kd.int .i64) W_ A1 l1.length l1) (hc1 : l1.length ≤ c1) (h : wire_put.f k l0 l1 = some r) :
    Calls Try.prog 15 #[u9000_, .slice A1 l1.length c1] w fun e w' => ∃ v0_ : Value, e = .returned (v0_) ∧ Kd.R (Kd.int .u8) 5 w' w0.heap.size (fun k_ => (P0_ k_ ∨ w.heap.size ≤ k_)) v0_ r ∧ Below w0.heap.size w0 w' ∧ Kept w w' (fun k_ => P0_ k_) := by
  have HO0 := Aside0.mk (show Kd.R (Kd.int .u8) 5 w w0.heap.size (fun k_ => (P0_ k_ ∨ w.heap.size ≤ k_)) u9000_ l0 from Kd.R_mono ho0 (fun k_ hk => (.inl hk)))
  have HR1 := Aside0.mk hr1
  have HC1 := Aside0.mk hc1
  clear hr1 hc1
  have HK := Aside0.mk (Kept.refl w (fun k_ => P0_ k_))
  have HW0 := Aside0.mk hB.size
  have HB := Aside0.mk hB
  clear hB
  have H : (wire_put.l0 k l0 l1 (l1.length : Int) 0) = some r := h
  clear h
  have H' := Aside0.mk H
  clear H
  go_enter Try.func15, Try.ntmps15
  go_wp2
  go_loopg [0, 9] k (fun kq v0 v9 w' => ∃ (x0_1 : List Int) (x9_1 : Int), v9 = .int .i64 x9_1 ∧ Aside0 (wire_put.l0 kq x0_1 l1 (l1.length : Int) x9_1 = some r) ∧ Aside0 (kq ≤ k) ∧ Aside0 (Kd.R (Kd.int .u8) 5 w' w0.heap.size (fun k_ => (P0_ k_ ∨ w.heap.size ≤ k_)) v0 x0_1) ∧ Aside0 (Kept w w' (fun k_ => P0_ k_)) ∧ Aside0 (Below w0.heap.size w0 w'))
  case atStart => exact ⟨(l0), (0), (by first | rfl | (simp; done) | (simp [*]; done)), H', ⟨Nat.le_refl _⟩, ⟨by (with_reducible repeat (first | apply Kd.R_alloc | apply Kd.R_drewN | apply Kd.R_drew)); exact HO0.out⟩, ⟨by repeat (first | (with_reducible first | exact HK.out | apply Kept.alloc | apply Kept.drewN | apply Kept.drew) | exact HK.out)⟩, ⟨by repeat (first | (with_reducible first | exact HB.out | apply below_alloc | apply pw_below_drewN | apply below_drew1) | exact HB.out)⟩⟩
  case round =>
    clear H'
    try clear c1
    try clear p2
    obtain ⟨x0_1, x9_1, rfl, HA, HK1, HO_0, HK, HB⟩ := hrel
    cases gk with
    | zero => exact absurd HA.out (by simp [wire_put.l0])
    | succ k1 =>
      have H := HA.out
      clear HA
      simp only [wire_put.l0] at H
      by_cases c3 : x9_1 < (l1.length : Int)
      · rw [if_pos c3] at H
        have c3b0 : decide (x9_1 < (l1.length : Int)) = true := decide_eq_true c3
        clear c3
        by_cases c4 : 0 ≤ x9_1
        · rw [if_pos c4] at H
          have c4b0 : decide (0 ≤ x9_1) = true := decide_eq_true c4
          clear c4
          by_cases c5 : x9_1 < (l1.length : Int)
          · rw [if_pos c5] at H
            have c5b0 : decide (x9_1 < (l1.length : Int)) = true := decide_eq_true c5
            clear c5
            by_cases c6 : x0_1.length < 140737488355328
            · rw [if_pos c6] at H
              have LMc6 := Aside0.mk c6
              clear c6
              obtain ⟨y114, hy114⟩ : ∃ y_ : List Int, y_ = (x0_1 ++ [(rd l1 x9_1) % 256]) := ⟨_, rfl⟩
              replace H : (wire_put.l0 k1 y114 l1 (l1.length : Int) (wrap64 (x9_1 + 1))) = some r := by first | (rw [hy114]; with_reducible exact H) | (have H2_ := (Option.bind_some _ _).symm.trans H; rw [hy114]; with_reducible exact H2_) | (have H2_ := (Option.bind_some _ _).symm.trans H; with_reducible exact H2_) | with_reducible exact H | (rw [hy114]; exact H) | exact H
              have Ny114 := Aside0.mk hy114
              clear hy114
              have H' := Aside0.mk H
              clear H
              have p113 : 0 ≤ (x9_1 : Int) := of_decide_eq_true (by first | (with_reducible assumption) | assumption)
              have q113 : x9_1 < (l1.length : Int) := of_decide_eq_true (by first | (with_reducible assumption) | assumption)
              obtain ⟨ad113, e113, hx113_0⟩ := Kd.at_int (Kd.C_kept_now HR1.out HK.out) x9_1 p113 q113
              cases e113
              replace p113 := eq_true p113
              replace q113 := eq_true q113
              go_wp2_with (first | ((with_reducible refine gate_builtin (b := .append) (xs := #[.tmp 13, .tmp 16]) rfl ?_); at_builtin; refine Kd.R_append (Kd.int .u8) (w0 := w0) w0.heap.size rfl (.tmp 13) (.tmp 16) 23 5 (.int .u8 0) 1 rfl Try.underlying23 info5 rfl (by decide) (by omega) u0 x0_1 ((rd l1 x9_1) % 256) [.int .u8 ((rd l1 x9_1) % 256)] (fun k_ => (P0_ k_ ∨ w.heap.size ≤ k_)) (fun _ => False) rfl rfl ?aP (fun _ hk => hk.elim) ?aF ?aO ?aB ?aS ?aL ?_; (case aP => exact rfl); (case aB => exact (by repeat (first | (with_reducible first | exact HB.out | apply below_alloc | apply pw_below_drewN | apply below_drew1) | exact HB.out))); (case aF => exact (fun k_ hk => (.inr (Nat.le_trans (by first | exact HK.out.1 | exact (show Kept w _ (fun k_ => P0_ k_) from by repeat (first | (with_reducible first | exact HK.out | apply Kept.alloc | apply Kept.drewN | apply Kept.drew) | exact HK.out)).1) hk)))); (case aO => exact (by (with_reducible repeat (first | apply Kd.R_alloc | apply Kd.R_drewN | apply Kd.R_drew)); exact HO_0.out)); (case aS => exact (below_size (by repeat (first | (with_reducible first | exact HB.out | apply below_alloc | apply pw_below_drewN | apply below_drew1) | exact HB.out)))); (case aL => have := LMc6.out; omega); intro v115 w7 ho hb hg hat; rw [← Ny114.out] at ho; have n0_ := Aside0.mk (hb); have n1_ := Aside0.mk (Kept.of_grown (S := (fun k_ => P0_ k_)) hg (by repeat (first | (with_reducible first | exact HK.out | apply Kept.alloc | apply Kept.drewN | apply Kept.drew) | exact HK.out)) (fun k_ e_ => (HO_0.out.1 k_ e_))); have n2_ := Aside0.mk (ho); clear HB; clear HK; clear HO_0; have HB := n0_; have HK := n1_; have HO116 := n2_; clear n0_ n1_ n2_; clear ho hb hg hat))
              go_roundg k1
              case measure => have := HK1.out; omega
              case rel => exact ⟨(y114), (wrap64 (x9_1 + 1)), (by first | rfl | (simp; done) | (simp [*]; done)), H', ⟨by have := HK1.out; omega⟩, ⟨by (with_reducible repeat (first | apply Kd.R_alloc | apply Kd.R_drewN | apply Kd.R_drew)); exact HO116.out⟩, ⟨by repeat (first | (with_reducible first | exact HK.out | apply Kept.alloc | apply Kept.drewN | apply Kept.drew) | exact HK.out)⟩, ⟨by repeat (first | (with_reducible first | exact HB.out | apply below_alloc | apply pw_below_drewN | apply below_drew1) | exact HB.out)⟩⟩
            · rw [if_neg c6] at H
              exact absurd H (by simp)
          · rw [if_neg c5] at H
            exact absurd H (by simp)
        · rw [if_neg c4] at H
          exact absurd H (by simp)
      · rw [if_neg c3] at H
        have c3b0 : decide (x9_1 < (l1.length : Int)) = false := decide_eq_false c3
        clear c3
        obtain rfl := Option.some.inj H
        go_wp2
        go_ret
        exact ⟨_, by first | rfl | (simp [errW_none, errW_some] <;> rfl) | (simp [*, errW_none, errW_some] <;> rfl), by (with_reducible repeat (first | apply Kd.R_alloc | apply Kd.R_drewN | apply Kd.R_drew)); exact HO_0.out, by repeat (first | (with_reducible first | exact HB.out | apply below_alloc | apply pw_below_drewN | apply below_drew1) | exact HB.out), by repeat (first | (with_reducible first | exact HK.out | apply Kept.alloc | apply Kept.drewN | apply Kept.drew) | exact HK.out)⟩

/-! ### pack_told: function 30 (given) -/
theorem wp_hid {P : Program} {c : Code} {Q : Exit → Act → World → Prop} {a : Act} {w : World} (h : ∀ Q', Aside0 (Q' = Q) → c.wp P Q' a w) : c.wp P Q a w := h Q ⟨rfl⟩
/-- What was raised where something must be so, in a frame that it goes through. -/
def wrongR : PanicEntry := { v := .iface 71 (.agg #[]), recovered := true }
theorem pack_told.idle (pe : Addr) (F : Value) (w : World) :
    CallsD Try.prog 30 #[.pointer (some pe), F] .returning w fun e u' w' => e = .returned (.tuple #[]) ∧ u' = .returning ∧ w = w' := by
  refine callsD_of_wpS Try.func30 rfl fun c₀ cs hu => ?_
  apply wpS_seq
  apply wpS_region
  simp [wpOpsS, go_sem, recoverD, hu, Try.ntmps30, Exit.thenS]
  have hf : #[Value.pointer (some pe), F] ++ (Array.replicate 15 undef).setIfInBounds 5 Value.nilIface = #[Value.pointer (some pe), F, undef, undef, undef, undef, undef, Value.nilIface, undef, undef, undef, undef, undef, undef, undef, undef, undef] := rfl
  rw [hf]
  refine wpS_of_wp (wp_hid fun Q' hQ' => ?_)
  have HU := Aside0.mk hu
  clear hu hf
  go_wp2
  rw [hQ'.out]
  refine ⟨rfl, .returning, ?_, .tuple #[], by simp [results, Try.results30, go_sem], rfl, rfl, rfl⟩
  rw [← HU.out]
theorem pack_told.wrong (pe : Addr) (g : FuncId) (caps : Array Value) (x : Value) (older : List PanicEntry) (w : World) (Q : World → Prop)
    (hcf : ∀ W : World, (callFunc g caps).run Try.prog W = .ok (.enter g caps) W) (hc : Calls Try.prog g caps (w.alloc (.cells #[] 71)) fun e w' => e = .returned (.tuple #[]) ∧ Q w' ∧ w'.cell? pe = some x ∧ w'.frozen? pe = false) :
    CallsD Try.prog 30 #[.pointer (some pe), .func (.func g) #[] caps] (.panicking ({ v := .iface 71 (.agg #[]), recovered := false } :: older)) w fun e u' w' =>
      e = .returned (.tuple #[]) ∧ u' = .panicking (wrongR :: older) ∧ ∃ w1, Q w1 ∧ w1.setCell pe (.int .i64 40) = w' := by
  refine callsD_of_wpS Try.func30 rfl fun c₀ cs hu => ?_
  apply wpS_seq
  apply wpS_region
  simp [wpOpsS, go_sem, recoverD, hu, Try.ntmps30, Exit.thenS]
  have hf : #[Value.pointer (some pe), Value.func (.func g) #[] caps] ++ (Array.replicate 15 undef).setIfInBounds 5 (.iface 71 (.agg #[])) = #[Value.pointer (some pe), Value.func (.func g) #[] caps, undef, undef, undef, undef, undef, .iface 71 (.agg #[]), undef, undef, undef, undef, undef, undef, undef, undef, undef] := rfl
  rw [hf]
  refine wpS_of_wp (wp_hid fun Q' hQ' => ?_)
  have HU := Aside0.mk hu
  have HC := Aside0.mk hc
  clear hu hf hc
  have hta : ∀ W : World, (Instr.typeAssert (.iface 71 (.agg #[])) 20 71 true).run Try.prog W = .ok (.tuple #[.agg #[], .bool true]) W := fun W => by rfl
  go_wp2_with ((with_reducible refine (HC.out).mono ?_); rintro e w1 ⟨rfl, hq, hcell, hfree⟩; have HQ := Aside0.mk hq; clear hq)
  rw [hQ'.out]
  refine ⟨rfl, _, rfl, .tuple #[], by simp [results, Try.results30, go_sem], rfl, rfl, _, HQ.out, rfl⟩


/-! ### pack_must: function 44 (given) -/
def pack_must.f (a0 : Bool) : Option Unit := if a0 = true then some () else none
theorem pack_must.ok (w : World) : Calls Try.prog 44 #[.bool true] w fun e w' => e = .returned (.tuple #[]) ∧ w = w' := by
  go_enter Try.func44, Try.ntmps44
  go_wp2
  go_end0
  exact ⟨rfl, rfl⟩
theorem pack_must.calls (a0 : Bool) (w : World) (h : pack_must.f a0 = some ()) : Calls Try.prog 44 #[.bool a0] w fun e w' => e = .returned (.tuple #[]) ∧ Drawn0 w w' := by
  cases a0 with
  | true => exact (pack_must.ok w).mono fun e w' ⟨he, hw⟩ => ⟨he, by rw [← hw]; exact Drawn0.refl _⟩
  | false => simp [pack_must.f] at h
/-- What is raised where something must be so and is not. -/
def wrongE : PanicEntry := { v := .iface 71 (.agg #[]), recovered := false }
theorem pack_must.no (w : World) : Calls Try.prog 44 #[.bool false] w fun e w' => e = .panicked [wrongE] ∧ w = w' := by
  go_enter Try.func44, Try.ntmps44
  go_wp2
  exact ⟨rfl, rfl, rfl⟩


/-! ### pack_bits: function 32 (given) -/
def okSize (n : Int) : Bool := n == 1 || n == 2 || n == 8
def pack_bits.f (a0 : Int) : Option Int := if okSize a0 = true then some (8 * a0) else none
theorem pack_bits.ok (a0 : Int) (h : okSize a0 = true) (w : World) : Calls Try.prog 32 #[.int .i64 a0] w fun e w' => e = .returned (.int .i64 (8 * a0)) ∧ w = w' := by
  have h3 : a0 = 1 ∨ a0 = 2 ∨ a0 = 8 := by simpa [okSize, or_assoc] using h
  rcases h3 with rfl | rfl | rfl
  all_goals
    go_enter Try.func32, Try.ntmps32
    go_wp2_with (go_at_call 44; (with_reducible refine (pack_must.ok _).mono ?_); rintro e w' ⟨rfl, rfl⟩)
    go_ret
    exact ⟨rfl, rfl⟩
theorem pack_bits.calls (a0 : Int) (r : Int) (w : World) (h : pack_bits.f a0 = some r) : Calls Try.prog 32 #[.int .i64 a0] w fun e w' => e = .returned (.int .i64 r) ∧ Drawn0 w w' := by
  unfold pack_bits.f at h
  by_cases hk : okSize a0 = true
  · rw [if_pos hk] at h
    obtain rfl := Option.some.inj h
    exact (pack_bits.ok a0 hk w).mono fun e w' ⟨he, hw⟩ => ⟨he, by rw [← hw]; exact Drawn0.refl _⟩
  · rw [if_neg hk] at h; cases h
theorem pack_bits.no (a0 : Int) (h : okSize a0 = false) (w : World) : Calls Try.prog 32 #[.int .i64 a0] w fun e w' => e = .panicked [wrongE] ∧ w = w' := by
  have h1 : (a0 == 1) = false := by simp [okSize] at h; simp [h]
  have h2 : (a0 == 2) = false := by simp [okSize] at h; simp [h]
  have h3 : (a0 == 8) = false := by simp [okSize] at h; simp [h]
  clear h
  go_enter Try.func32, Try.ntmps32
  go_wp2_with (go_at_call 44; (with_reducible refine (pack_must.no _).mono ?_); rintro e w' ⟨rfl, rfl⟩)
  exact ⟨rfl, rfl, rfl⟩


end Go.Proofs.Ytchmfdaebohplaa.A
