/- Lean functions that answer as the Go functions do, and the proofs that they do; no conditions. Written by this session's own driver: a scratch copy of the kit's print with the session's additions (wip/xprint). -/
import Derived.Test.YtjcgadfmhfhbgaaAx0
import Derived.Test.YtjcgadfmhfhbgaaAx2
import Derived.Test.YtjcgadfmhfhbgaaAx3
namespace Go.Proofs.Ytjcgadfmhfhbgaa.A
open Go.RowKit Go.Proofs.YtjcgadfmhfhbgaaW.PrintWords Go.Proofs.YtjcgadfmhfhbgaaW.PrintLast Go.Proofs.YtjcgadfmhfhbgaaW.PrintMore
attribute [local go_sem] max2_int min2_int max_two min_two max_three min_three max_four min_four
set_option linter.unusedVariables false
set_option linter.unusedSimpArgs false
theorem lit_row (W : World) (ns : List Int) (h : ns.length ≤ 100) : Kd.R (Kd.int .i64) 3 (W.alloc (.cells (encs (fun n => Value.int .i64 n) ns).toArray 3)) W.heap.size (fun k => W.heap.size ≤ k) (.slice (some ⟨W.heap.size, 0, none⟩) ns.length ns.length) ns := by
  refine Kd.R_of_own (h1 := fun _ => rfl) ?_ (fun k hk => by have : W.heap.size = k := by simpa [Value.ownBlock] using hk
                                                             omega)
  have h2 := World.ownsRow_lit (base := W.heap.size) (e := 3) (size := 1) W (encs (fun n => Value.int .i64 n) ns).toArray ns.length (Nat.le_refl _) (by simp [maxLen]; omega) (by simp [encs])
  simpa using h2
theorem lit_row2 (W : World) (n m : Int) : Kd.R (Kd.int .i64) 3 (W.alloc (.cells #[.int .i64 n, .int .i64 m] 3)) W.heap.size (fun k => W.heap.size ≤ k) (.slice (some ⟨W.heap.size, 0, none⟩) 2 2) [n, m] := lit_row W [n, m] (by simp)
def byteOk (n : Int) : Bool := decide (0 ≤ n) && decide (n ≤ 255)
def script_fits.f (l0 : List Int) : Option Bool := some (l0.all byteOk)
set_option maxHeartbeats 8000000 in
set_option maxRecDepth 100000 in
theorem fits_lit_calls (a : Int) (W : World) : Calls Try.prog 61 #[.int .i64 a] W fun e w' => e = .returned (.bool (!byteOk a)) ∧ Below W.heap.size W w' := by
  by_cases h0 : a < 0
  · have b0 : decide (a < 0) = true := decide_eq_true h0
    have hr : (!byteOk a) = true := by simp [byteOk]; omega
    rw [hr]
    clear h0 hr
    go_enter Try.func61, Try.ntmps61
    go_wp2
    go_ret
    exact ⟨rfl, Below.refl _ _⟩
  · have b0 : decide (a < 0) = false := decide_eq_false h0
    have hr : (!byteOk a) = decide (255 < a) := by
      unfold byteOk
      rw [decide_eq_true (show 0 ≤ a by omega), Bool.true_and, ← decide_not]
      simp [Int.not_le]
    rw [hr]
    clear h0 hr
    go_enter Try.func61, Try.ntmps61
    go_wp2
    go_ret
    exact ⟨rfl, Below.refl _ _⟩
set_option maxHeartbeats 8000000 in
set_option maxRecDepth 100000 in
theorem script_fits.calls (A0 : Option Addr) (c0 : Nat) (l0 : List Int) (r : Bool) (w : World) (hr0 : Kd.C (Kd.int .i64) w A0 l0.length l0) (hc0 : l0.length ≤ c0) (h : script_fits.f l0 = some r) :
    Calls Try.prog 33 #[.slice A0 l0.length c0] w fun e w' => e = .returned (.bool r) ∧ Below w.heap.size w w' := by
  have h := Option.some.inj h
  have hr : (!(l0.any fun n => !byteOk n)) = r := by rw [← h, List.not_any_eq_all_not]; simp
  have HR := Aside0.mk hr
  have H0 := Aside0.mk hr0
  clear h hr hr0
  go_enter Try.func33, Try.ntmps33
  go_wp2_with fail
  refine (slices_ContainsFunc_int_int.by_ (fun n => !byteOk n) 61 #[] A0 c0 l0 _ H0.out (fun _ _ => by simp [go_sem]) (fun W x _ _ => fits_lit_calls x W)).mono ?_
  rintro e w1 ⟨rfl, hb⟩
  have HB := Aside0.mk hb
  obtain ⟨q, hq⟩ : ∃ q : Bool, (l0.any fun n => !byteOk n) = q := ⟨_, rfl⟩
  rw [hq] at HR ⊢
  clear hb hq
  go_wp2_with fail
  go_ret
  exact ⟨by rw [← HR.out]; rfl, HB.out⟩
def chkEnd (rs o0 o1 o2 o3 rb rp : Int) (rg : List S48) (r3 r4 : List Int) (s p : Int) : Option Bool :=
 if rs = 0 then if o0 = 0 ∧ o1 = 0 ∧ o2 = 0 ∧ o3 = 0 then if rb = 0 then if rp = 0 then if rg = [] then (script_empty.f r3 r4).bind fun e => if e = true then script_fits.f [s, p] else some false else some false else some false else some false else some false else some false
def script_Check.f (k : Nat) (a0_0 a0_1 : Int) (l0_2 : List S48) (l0_3 l0_4 : List Int) (a0_5 a0_6 a0_7 a0_8 a0_9 a0_10 : Int) : Option Bool :=
 if a0_0 = 2 then (graph_Check.f l0_2).bind fun g => if g = true then (script_empty.f l0_3 l0_4).bind fun e => (if e = true then some true else tensor_Check.f k l0_3 l0_4).bind fun t => if t = true then chkEnd 0 a0_5 a0_6 a0_7 a0_8 a0_9 a0_10 [] [] [] a0_1 a0_10 else some false else some false
 else if a0_0 = 4 ∨ a0_0 = 5 then chkEnd 0 a0_5 a0_6 a0_7 a0_8 a0_9 a0_10 l0_2 l0_3 l0_4 a0_1 a0_10
 else if a0_0 = 3 then (script_fits.f [a0_5, a0_9]).bind fun t => if t = true then chkEnd 0 0 0 0 0 0 a0_10 l0_2 l0_3 l0_4 a0_1 a0_10 else some false
 else if a0_0 = 8 then chkEnd a0_1 a0_5 a0_6 a0_7 a0_8 a0_9 0 l0_2 l0_3 l0_4 a0_1 a0_10
 else if a0_0 = 1 ∨ a0_0 = 6 ∨ a0_0 = 7 then chkEnd a0_1 a0_5 a0_6 a0_7 a0_8 a0_9 a0_10 l0_2 l0_3 l0_4 a0_1 a0_10
 else some false
theorem script_Check.mono : ∀ a0 a1 a2 a3 a4 a5 a6 a7 a8 a9 a10 k, LeO (script_Check.f k a0 a1 a2 a3 a4 a5 a6 a7 a8 a9 a10) (script_Check.f (k + 1) a0 a1 a2 a3 a4 a5 a6 a7 a8 a9 a10) := by
 intro a0 a1 a2 a3 a4 a5 a6 a7 a8 a9 a10 k
 unfold script_Check.f
 refine LeO.ite (LeO.bind (LeO.refl _) fun g => LeO.ite (LeO.bind (LeO.refl _) fun e => LeO.bind (LeO.ite (LeO.refl _) (tensor_Check.mono _ _ _)) fun t => LeO.refl _) (LeO.refl _)) (LeO.refl _)
structure ChkI (w W : World) (cs rs : Array Value) : Prop where
 bel : Below w.heap.size w W
 c : W.heap[w.heap.size]? = some (.cells cs 30 (0, 0))
 r : W.heap[w.heap.size + 1]? = some (.cells rs 30 (0, 0))
theorem ChkI.start (w : World) (cs rs : Array Value) : ChkI w ((w.alloc (.cells cs 30)).alloc (.cells rs 30)) cs rs :=
 ⟨below_alloc (below_alloc (Below.refl _ _) _) _, blk_alloc (blk_new _ _) _, by have := blk_new (w.alloc (.cells cs 30)) (.cells rs 30); simpa using this⟩
theorem ChkI.below {w W W1 : World} {cs rs : Array Value} (h : ChkI w W cs rs) (hb : Below W.heap.size W W1) : ChkI w W1 cs rs := ⟨below_step h.bel hb, blk_below h.c hb, blk_below h.r hb⟩
theorem ChkI.put {w W : World} {cs rs rs' : Array Value} (h : ChkI w W cs rs) (j : Nat) (u : Value) (e : rs.setIfInBounds j u = rs') : ChkI w (W.setCell ⟨w.heap.size + 1, j, none⟩ u) cs rs' :=
 ⟨h.bel.setCell (p := ⟨w.heap.size + 1, j, none⟩) (Nat.le_succ _) u, (Below.heap_setCell W ⟨w.heap.size + 1, j, none⟩ u w.heap.size (by simp)).trans h.c, blk_put h.r j u e⟩
theorem ChkI.p1 {w W : World} {cs : Array Value} {x0 x1 x2 x3 x4 x5 x6 x7 x8 x9 x10 : Value} (h : ChkI w W cs #[x0, x1, x2, x3, x4, x5, x6, x7, x8, x9, x10]) (u : Value) : ChkI w (W.setCell ⟨w.heap.size + 1, 1, none⟩ u) cs #[x0, u, x2, x3, x4, x5, x6, x7, x8, x9, x10] := h.put 1 u rfl
theorem ChkI.p2 {w W : World} {cs : Array Value} {x0 x1 x2 x3 x4 x5 x6 x7 x8 x9 x10 : Value} (h : ChkI w W cs #[x0, x1, x2, x3, x4, x5, x6, x7, x8, x9, x10]) (u : Value) : ChkI w (W.setCell ⟨w.heap.size + 1, 2, none⟩ u) cs #[x0, x1, u, x3, x4, x5, x6, x7, x8, x9, x10] := h.put 2 u rfl
theorem ChkI.p3 {w W : World} {cs : Array Value} {x0 x1 x2 x3 x4 x5 x6 x7 x8 x9 x10 : Value} (h : ChkI w W cs #[x0, x1, x2, x3, x4, x5, x6, x7, x8, x9, x10]) (u : Value) : ChkI w (W.setCell ⟨w.heap.size + 1, 3, none⟩ u) cs #[x0, x1, x2, u, x4, x5, x6, x7, x8, x9, x10] := h.put 3 u rfl
theorem ChkI.p4 {w W : World} {cs : Array Value} {x0 x1 x2 x3 x4 x5 x6 x7 x8 x9 x10 : Value} (h : ChkI w W cs #[x0, x1, x2, x3, x4, x5, x6, x7, x8, x9, x10]) (u : Value) : ChkI w (W.setCell ⟨w.heap.size + 1, 4, none⟩ u) cs #[x0, x1, x2, x3, u, x5, x6, x7, x8, x9, x10] := h.put 4 u rfl
theorem ChkI.p5 {w W : World} {cs : Array Value} {x0 x1 x2 x3 x4 x5 x6 x7 x8 x9 x10 : Value} (h : ChkI w W cs #[x0, x1, x2, x3, x4, x5, x6, x7, x8, x9, x10]) (u : Value) : ChkI w (W.setCell ⟨w.heap.size + 1, 5, none⟩ u) cs #[x0, x1, x2, x3, x4, u, x6, x7, x8, x9, x10] := h.put 5 u rfl
theorem ChkI.p6 {w W : World} {cs : Array Value} {x0 x1 x2 x3 x4 x5 x6 x7 x8 x9 x10 : Value} (h : ChkI w W cs #[x0, x1, x2, x3, x4, x5, x6, x7, x8, x9, x10]) (u : Value) : ChkI w (W.setCell ⟨w.heap.size + 1, 6, none⟩ u) cs #[x0, x1, x2, x3, x4, x5, u, x7, x8, x9, x10] := h.put 6 u rfl
theorem ChkI.p7 {w W : World} {cs : Array Value} {x0 x1 x2 x3 x4 x5 x6 x7 x8 x9 x10 : Value} (h : ChkI w W cs #[x0, x1, x2, x3, x4, x5, x6, x7, x8, x9, x10]) (u : Value) : ChkI w (W.setCell ⟨w.heap.size + 1, 7, none⟩ u) cs #[x0, x1, x2, x3, x4, x5, x6, u, x8, x9, x10] := h.put 7 u rfl
theorem ChkI.p8 {w W : World} {cs : Array Value} {x0 x1 x2 x3 x4 x5 x6 x7 x8 x9 x10 : Value} (h : ChkI w W cs #[x0, x1, x2, x3, x4, x5, x6, x7, x8, x9, x10]) (u : Value) : ChkI w (W.setCell ⟨w.heap.size + 1, 8, none⟩ u) cs #[x0, x1, x2, x3, x4, x5, x6, x7, u, x9, x10] := h.put 8 u rfl
theorem ChkI.p9 {w W : World} {cs : Array Value} {x0 x1 x2 x3 x4 x5 x6 x7 x8 x9 x10 : Value} (h : ChkI w W cs #[x0, x1, x2, x3, x4, x5, x6, x7, x8, x9, x10]) (u : Value) : ChkI w (W.setCell ⟨w.heap.size + 1, 9, none⟩ u) cs #[x0, x1, x2, x3, x4, x5, x6, x7, x8, u, x10] := h.put 9 u rfl
theorem ChkI.p10 {w W : World} {cs : Array Value} {x0 x1 x2 x3 x4 x5 x6 x7 x8 x9 x10 : Value} (h : ChkI w W cs #[x0, x1, x2, x3, x4, x5, x6, x7, x8, x9, x10]) (u : Value) : ChkI w (W.setCell ⟨w.heap.size + 1, 10, none⟩ u) cs #[x0, x1, x2, x3, x4, x5, x6, x7, x8, x9, u] := h.put 10 u rfl
theorem ChkI.cells {w W : World} {cs : Array Value} {x0 x1 x2 x3 x4 x5 x6 x7 x8 x9 x10 : Value} (h : ChkI w W cs #[x0, x1, x2, x3, x4, x5, x6, x7, x8, x9, x10]) :
  W.cell? ⟨w.heap.size + 1, 0, none⟩ = some x0 ∧ W.cell? ⟨w.heap.size + 1, 1, none⟩ = some x1 ∧ W.cell? ⟨w.heap.size + 1, 2, none⟩ = some x2 ∧ W.cell? ⟨w.heap.size + 1, 3, none⟩ = some x3 ∧ W.cell? ⟨w.heap.size + 1, 4, none⟩ = some x4 ∧ W.cell? ⟨w.heap.size + 1, 5, none⟩ = some x5 ∧ W.cell? ⟨w.heap.size + 1, 6, none⟩ = some x6 ∧ W.cell? ⟨w.heap.size + 1, 7, none⟩ = some x7 ∧ W.cell? ⟨w.heap.size + 1, 8, none⟩ = some x8 ∧ W.cell? ⟨w.heap.size + 1, 9, none⟩ = some x9 ∧ W.cell? ⟨w.heap.size + 1, 10, none⟩ = some x10 ∧ ∀ j, W.frozen? ⟨w.heap.size + 1, j, none⟩ = false :=
 have hc := fun j => blk_cell h.r j
 ⟨(hc 0).trans rfl, (hc 1).trans rfl, (hc 2).trans rfl, (hc 3).trans rfl, (hc 4).trans rfl, (hc 5).trans rfl, (hc 6).trans rfl, (hc 7).trans rfl, (hc 8).trans rfl, (hc 9).trans rfl, (hc 10).trans rfl, fun j => blk_frozen h.r j⟩
theorem ChkI.cellsC {w W : World} {rs : Array Value} {x0 x1 x2 x3 x4 x5 x6 x7 x8 x9 x10 : Value} (h : ChkI w W #[x0, x1, x2, x3, x4, x5, x6, x7, x8, x9, x10] rs) :
  W.cell? ⟨w.heap.size, 0, none⟩ = some x0 ∧ W.cell? ⟨w.heap.size, 1, none⟩ = some x1 ∧ W.cell? ⟨w.heap.size, 2, none⟩ = some x2 ∧ W.cell? ⟨w.heap.size, 3, none⟩ = some x3 ∧ W.cell? ⟨w.heap.size, 4, none⟩ = some x4 ∧ W.cell? ⟨w.heap.size, 5, none⟩ = some x5 ∧ W.cell? ⟨w.heap.size, 9, none⟩ = some x9 ∧ W.cell? ⟨w.heap.size, 10, none⟩ = some x10 :=
 have hc := fun j => blk_cell h.c j
 ⟨(hc 0).trans rfl, (hc 1).trans rfl, (hc 2).trans rfl, (hc 3).trans rfl, (hc 4).trans rfl, (hc 5).trans rfl, (hc 9).trans rfl, (hc 10).trans rfl⟩
set_option maxHeartbeats 8000000 in
set_option maxRecDepth 100000 in
theorem script_Check.calls (k : Nat) (a0_0 : Int) (a0_1 : Int) (A0_2 : Option Addr) (c0_2 : Nat) (l0_2 : List (S48)) (A0_3 : Option Addr) (c0_3 : Nat) (l0_3 : List Int) (A0_4 : Option Addr) (c0_4 : Nat) (l0_4 : List Int) (a0_5 : Int) (a0_6 : Int) (a0_7 : Int) (a0_8 : Int) (a0_9 : Int) (a0_10 : Int) (r : Bool) (w : World) (hr0_2 : Kd.C k48 w A0_2 l0_2.length l0_2) (hc0_2 : l0_2.length ≤ c0_2) (hr0_3 : Kd.C (Kd.int .i64) w A0_3 l0_3.length l0_3) (hc0_3 : l0_3.length ≤ c0_3) (hr0_4 : Kd.C (Kd.int .i64) w A0_4 l0_4.length l0_4) (hc0_4 : l0_4.length ≤ c0_4) (h : script_Check.f k a0_0 a0_1 l0_2 l0_3 l0_4 a0_5 a0_6 a0_7 a0_8 a0_9 a0_10 = some r) :
  Calls Try.prog 15 #[.agg #[.int .i64 a0_0, .int .i64 a0_1, .slice A0_2 l0_2.length c0_2, .slice A0_3 l0_3.length c0_3, .slice A0_4 l0_4.length c0_4, .int .i64 a0_5, .int .i64 a0_6, .int .i64 a0_7, .int .i64 a0_8, .int .i64 a0_9, .int .i64 a0_10]] w fun e w' => e = .returned (.bool r) ∧ Below w.heap.size w w' := by
 have hu30 := Try.underlying30
 have hu28 := Try.underlying28
 unfold script_Check.f at h
 have H2 := Aside0.mk hr0_2
 have H3 := Aside0.mk hr0_3
 have H4 := Aside0.mk hr0_4
 have C2 := Aside0.mk hc0_2
 have C3 := Aside0.mk hc0_3
 have C4 := Aside0.mk hc0_4
 have HF := Aside0.mk h
 have HI := Aside0.mk (ChkI.start w #[.int .i64 a0_0, .int .i64 a0_1, .slice A0_2 l0_2.length c0_2, .slice A0_3 l0_3.length c0_3, .slice A0_4 l0_4.length c0_4, .int .i64 a0_5, .int .i64 a0_6, .int .i64 a0_7, .int .i64 a0_8, .int .i64 a0_9, .int .i64 a0_10] #[.int .i64 a0_0, .int .i64 a0_1, .slice A0_2 l0_2.length c0_2, .slice A0_3 l0_3.length c0_3, .slice A0_4 l0_4.length c0_4, .int .i64 a0_5, .int .i64 a0_6, .int .i64 a0_7, .int .i64 a0_8, .int .i64 a0_9, .int .i64 a0_10])
 clear hr0_2 hr0_3 hr0_4 hc0_2 hc0_3 hc0_4 h
 go_enter Try.func15, Try.ntmps15
 go_upto_region 2 with fail
 generalize World.alloc (World.alloc w _) _ = W at HI ⊢
 obtain ⟨z0, z1, z2, z3, z4, z5, z9, z10⟩ := HI.out.cellsC
 go_upto_block 0 with fail
 go_cut [] (fun wx => ∃ (rs o0 o1 o2 o3 rb rp : Int) (rg : List S48) (r3 r4 : List Int) (Ag : Option Addr) (cg : Nat) (A3 : Option Addr) (c3 : Nat) (A4 : Option Addr) (c4 : Nat), Aside0 (ChkI w wx #[.int .i64 a0_0, .int .i64 a0_1, .slice A0_2 l0_2.length c0_2, .slice A0_3 l0_3.length c0_3, .slice A0_4 l0_4.length c0_4, .int .i64 a0_5, .int .i64 a0_6, .int .i64 a0_7, .int .i64 a0_8, .int .i64 a0_9, .int .i64 a0_10] #[.int .i64 a0_0, .int .i64 rs, .slice Ag rg.length cg, .slice A3 r3.length c3, .slice A4 r4.length c4, .int .i64 o0, .int .i64 o1, .int .i64 o2, .int .i64 o3, .int .i64 rb, .int .i64 rp]) ∧ Aside0 (r3.length ≤ c3 ∧ Kd.C (Kd.int .i64) w A3 r3.length r3) ∧ Aside0 (r4.length ≤ c4 ∧ Kd.C (Kd.int .i64) w A4 r4.length r4) ∧ Aside0 (chkEnd rs o0 o1 o2 o3 rb rp rg r3 r4 a0_1 a0_10 = some r))
 case first =>
  by_cases h2 : a0_0 = 2
  ·as_aux_lemma =>
   subst h2
   have hF := HF.out
   rw [if_pos rfl] at hF
   obtain ⟨g, hg, hF⟩ := Option.bind_eq_some_iff.mp hF
   have HG := Aside0.mk hg
   have HF2 := Aside0.mk hF
   clear hF HF hg
   go_wp2_with fail
   refine (graph_Check.calls A0_2 c0_2 l0_2 g _ (Kd.C_below H2.out HI.out.bel) C2.out HG.out).mono ?_
   rintro e w1 ⟨rfl, hd⟩
   have HI1 := Aside0.mk (HI.out.below hd)
   clear hd HI z0 z1 z2 z3 z4 z5 z9 z10
   obtain ⟨z0, z1, z2, z3, z4, z5, z9, z10⟩ := HI1.out.cellsC
   cases g with
   | false =>
    have hF := Option.some.inj (show some false = some r from HF2.out)
    subst hF
    go_wp2_with fail
    go_ret
    exact ⟨rfl, HI1.out.bel⟩
   | true =>
    obtain ⟨e, he, hF⟩ := Option.bind_eq_some_iff.mp (show ((script_empty.f l0_3 l0_4).bind fun e => (if e = true then some true else tensor_Check.f k l0_3 l0_4).bind fun t => if t = true then chkEnd 0 a0_5 a0_6 a0_7 a0_8 a0_9 a0_10 [] [] [] a0_1 a0_10 else some false) = some r from HF2.out)
    have HE := Aside0.mk he
    have HF3 := Aside0.mk hF
    clear hF he HF2
    go_wp2_with fail
    refine (script_empty.calls A0_3 c0_3 l0_3 A0_4 c0_4 l0_4 e _ (Kd.C_below H3.out HI1.out.bel) C3.out (Kd.C_below H4.out HI1.out.bel) C4.out HE.out).mono ?_
    rintro e' w2 ⟨rfl, hd⟩
    have HI2 := Aside0.mk (HI1.out.below hd)
    clear hd HI1 z0 z1 z2 z3 z4 z5 z9 z10
    obtain ⟨z0, z1, z2, z3, z4, z5, z9, z10⟩ := HI2.out.cellsC
    cases e with
    | true =>
     have HFE : Aside0 (chkEnd 0 a0_5 a0_6 a0_7 a0_8 a0_9 a0_10 [] [] [] a0_1 a0_10 = some r) := ⟨by have h := HF3.out; rw [if_pos rfl, Option.bind_some, if_pos rfl] at h; exact h⟩
     obtain ⟨y0, y1, y2, y3, y4, y5, y6, y7, y8, y9, y10, yf⟩ := HI2.out.cells
     have HI3 := ((((HI2.out.p2 (.slice none 0 0)).p3 (.slice none 0 0)).p4 (.slice none 0 0)).p1 (.int .i64 0))
     have HI3 := Aside0.mk HI3
     go_wp2_with fail
     go_meet
     exact ⟨0, a0_5, a0_6, a0_7, a0_8, a0_9, a0_10, [], [], [], none, 0, none, 0, none, 0, ⟨HI3.out⟩, ⟨Nat.le_refl _, Kd.C_nil _ _⟩, ⟨Nat.le_refl _, Kd.C_nil _ _⟩, HFE⟩
    | false =>
     obtain ⟨t, ht, hF⟩ := Option.bind_eq_some_iff.mp (show ((tensor_Check.f k l0_3 l0_4).bind fun t => if t = true then chkEnd 0 a0_5 a0_6 a0_7 a0_8 a0_9 a0_10 [] [] [] a0_1 a0_10 else some false) = some r from HF3.out)
     have HT := Aside0.mk ht
     have HF4 := Aside0.mk hF
     clear hF ht HF3
     go_wp2_with fail
     refine (tensor_Check.calls k A0_3 c0_3 l0_3 A0_4 c0_4 l0_4 t _ (Kd.C_below H3.out HI2.out.bel) C3.out (Kd.C_below H4.out HI2.out.bel) C4.out HT.out).mono ?_
     rintro e' w3 ⟨rfl, hd⟩
     have HI3 := Aside0.mk (HI2.out.below hd)
     clear hd HI2 z0 z1 z2 z3 z4 z5 z9 z10
     cases t with
     | false =>
      have hF := Option.some.inj (show some false = some r from HF4.out)
      subst hF
      go_wp2_with fail
      go_ret
      exact ⟨rfl, HI3.out.bel⟩
     | true =>
      have HFE : Aside0 (chkEnd 0 a0_5 a0_6 a0_7 a0_8 a0_9 a0_10 [] [] [] a0_1 a0_10 = some r) := ⟨by have h := HF4.out; rw [if_pos rfl] at h; exact h⟩
      obtain ⟨y0, y1, y2, y3, y4, y5, y6, y7, y8, y9, y10, yf⟩ := HI3.out.cells
      have HI4 := Aside0.mk ((((HI3.out.p2 (.slice none 0 0)).p3 (.slice none 0 0)).p4 (.slice none 0 0)).p1 (.int .i64 0))
      go_wp2_with fail
      go_meet
      exact ⟨0, a0_5, a0_6, a0_7, a0_8, a0_9, a0_10, [], [], [], none, 0, none, 0, none, 0, ⟨HI4.out⟩, ⟨Nat.le_refl _, Kd.C_nil _ _⟩, ⟨Nat.le_refl _, Kd.C_nil _ _⟩, HFE⟩
  ·by_cases h4 : a0_0 = 4
   ·as_aux_lemma =>
    subst h4
    clear h2
    have hF := HF.out
    rw [if_neg (by decide), if_pos (.inl rfl)] at hF
    have HFE := Aside0.mk hF
    clear hF HF
    obtain ⟨y0, y1, y2, y3, y4, y5, y6, y7, y8, y9, y10, yf⟩ := HI.out.cells
    have HI4 := Aside0.mk (HI.out.p1 (.int .i64 0))
    go_wp2_with fail
    go_meet
    exact ⟨0, a0_5, a0_6, a0_7, a0_8, a0_9, a0_10, l0_2, l0_3, l0_4, A0_2, c0_2, A0_3, c0_3, A0_4, c0_4, ⟨HI4.out⟩, ⟨C3.out, H3.out⟩, ⟨C4.out, H4.out⟩, HFE⟩
   ·by_cases h5 : a0_0 = 5
    ·as_aux_lemma =>
     subst h5
     clear h2 h4
     have hF := HF.out
     rw [if_neg (by decide), if_pos (.inr rfl)] at hF
     have HFE := Aside0.mk hF
     clear hF HF
     obtain ⟨y0, y1, y2, y3, y4, y5, y6, y7, y8, y9, y10, yf⟩ := HI.out.cells
     have HI4 := Aside0.mk (HI.out.p1 (.int .i64 0))
     go_wp2_with fail
     go_meet
     exact ⟨0, a0_5, a0_6, a0_7, a0_8, a0_9, a0_10, l0_2, l0_3, l0_4, A0_2, c0_2, A0_3, c0_3, A0_4, c0_4, ⟨HI4.out⟩, ⟨C3.out, H3.out⟩, ⟨C4.out, H4.out⟩, HFE⟩
    ·by_cases h3 : a0_0 = 3
     ·as_aux_lemma =>
      subst h3
      clear h2 h4 h5
      have hF := HF.out
      rw [if_neg (by decide), if_neg (by decide), if_pos rfl] at hF
      obtain ⟨t, ht, hF⟩ := Option.bind_eq_some_iff.mp hF
      have HT := Aside0.mk ht
      have HF4 := Aside0.mk hF
      have HA := Aside0.mk (HI.out.below (below_alloc (Below.refl _ _) (.cells #[.int .i64 a0_5, .int .i64 a0_9] 3)))
      have HR := Aside0.mk (Kd.R_reads' (lit_row2 W a0_5 a0_9))
      clear hF ht HF
      go_wp2_with fail
      refine (script_fits.calls _ 2 [a0_5, a0_9] t _ HR.out.2.2 (Nat.le_refl _) HT.out).mono ?_
      rintro e' w3 ⟨rfl, hd⟩
      have HI3 := Aside0.mk (HA.out.below hd)
      clear hd HI HA HR z0 z1 z2 z3 z4 z5 z9 z10
      cases t with
      | false =>
       have hF := Option.some.inj (show some false = some r from HF4.out)
       subst hF
       go_wp2_with fail
       go_ret
       exact ⟨rfl, HI3.out.bel⟩
      | true =>
       have HFE : Aside0 (chkEnd 0 0 0 0 0 0 a0_10 l0_2 l0_3 l0_4 a0_1 a0_10 = some r) := ⟨by have h := HF4.out; rw [if_pos rfl] at h; exact h⟩
       obtain ⟨y0, y1, y2, y3, y4, y5, y6, y7, y8, y9, y10, yf⟩ := HI3.out.cells
       have HI4 := Aside0.mk ((((((HI3.out.p1 (.int .i64 0)).p5 (.int .i64 0)).p6 (.int .i64 0)).p7 (.int .i64 0)).p8 (.int .i64 0)).p9 (.int .i64 0))
       go_wp2_with fail
       go_meet
       exact ⟨0, 0, 0, 0, 0, 0, a0_10, l0_2, l0_3, l0_4, A0_2, c0_2, A0_3, c0_3, A0_4, c0_4, ⟨HI4.out⟩, ⟨C3.out, H3.out⟩, ⟨C4.out, H4.out⟩, HFE⟩
     ·by_cases h8 : a0_0 = 8
      ·as_aux_lemma =>
       subst h8
       clear h2 h4 h5 h3
       have hF := HF.out
       rw [if_neg (by decide), if_neg (by decide), if_neg (by decide), if_pos rfl] at hF
       have HFE := Aside0.mk hF
       clear hF HF
       obtain ⟨y0, y1, y2, y3, y4, y5, y6, y7, y8, y9, y10, yf⟩ := HI.out.cells
       have HI4 := Aside0.mk (HI.out.p10 (.int .i64 0))
       go_wp2_with fail
       go_meet
       exact ⟨a0_1, a0_5, a0_6, a0_7, a0_8, a0_9, 0, l0_2, l0_3, l0_4, A0_2, c0_2, A0_3, c0_3, A0_4, c0_4, ⟨HI4.out⟩, ⟨C3.out, H3.out⟩, ⟨C4.out, H4.out⟩, HFE⟩
      ·by_cases h1 : a0_0 = 1
       ·as_aux_lemma =>
        subst h1
        clear h2 h4 h5 h3 h8
        have hF := HF.out
        rw [if_neg (by decide), if_neg (by decide), if_neg (by decide), if_neg (by decide), if_pos (.inl rfl)] at hF
        have HFE := Aside0.mk hF
        clear hF HF
        obtain ⟨y0, y1, y2, y3, y4, y5, y6, y7, y8, y9, y10, yf⟩ := HI.out.cells
        have HI4 := Aside0.mk (HI.out)
        go_wp2_with fail
        go_meet
        exact ⟨a0_1, a0_5, a0_6, a0_7, a0_8, a0_9, a0_10, l0_2, l0_3, l0_4, A0_2, c0_2, A0_3, c0_3, A0_4, c0_4, ⟨HI4.out⟩, ⟨C3.out, H3.out⟩, ⟨C4.out, H4.out⟩, HFE⟩
       ·by_cases h6 : a0_0 = 6
        ·as_aux_lemma =>
         subst h6
         clear h2 h4 h5 h3 h8 h1
         have hF := HF.out
         rw [if_neg (by decide), if_neg (by decide), if_neg (by decide), if_neg (by decide), if_pos (.inr (.inl rfl))] at hF
         have HFE := Aside0.mk hF
         clear hF HF
         obtain ⟨y0, y1, y2, y3, y4, y5, y6, y7, y8, y9, y10, yf⟩ := HI.out.cells
         have HI4 := Aside0.mk (HI.out)
         go_wp2_with fail
         go_meet
         exact ⟨a0_1, a0_5, a0_6, a0_7, a0_8, a0_9, a0_10, l0_2, l0_3, l0_4, A0_2, c0_2, A0_3, c0_3, A0_4, c0_4, ⟨HI4.out⟩, ⟨C3.out, H3.out⟩, ⟨C4.out, H4.out⟩, HFE⟩
        ·by_cases h7 : a0_0 = 7
         ·as_aux_lemma =>
          subst h7
          clear h2 h4 h5 h3 h8 h1 h6
          have hF := HF.out
          rw [if_neg (by decide), if_neg (by decide), if_neg (by decide), if_neg (by decide), if_pos (.inr (.inr rfl))] at hF
          have HFE := Aside0.mk hF
          clear hF HF
          obtain ⟨y0, y1, y2, y3, y4, y5, y6, y7, y8, y9, y10, yf⟩ := HI.out.cells
          have HI4 := Aside0.mk (HI.out)
          go_wp2_with fail
          go_meet
          exact ⟨a0_1, a0_5, a0_6, a0_7, a0_8, a0_9, a0_10, l0_2, l0_3, l0_4, A0_2, c0_2, A0_3, c0_3, A0_4, c0_4, ⟨HI4.out⟩, ⟨C3.out, H3.out⟩, ⟨C4.out, H4.out⟩, HFE⟩
         ·as_aux_lemma =>
          have hF := HF.out
          rw [if_neg h2, if_neg (fun e => e.elim h4 h5), if_neg h3, if_neg h8, if_neg (fun e => e.elim h1 (fun e => e.elim h6 h7))] at hF
          have hF := Option.some.inj hF
          subst hF
          have b1 : (a0_0 == 1) = false := beq_eq_false_iff_ne.mpr h1
          have b2 : (a0_0 == 2) = false := beq_eq_false_iff_ne.mpr h2
          have b3 : (a0_0 == 3) = false := beq_eq_false_iff_ne.mpr h3
          have b4 : (a0_0 == 4) = false := beq_eq_false_iff_ne.mpr h4
          have b5 : (a0_0 == 5) = false := beq_eq_false_iff_ne.mpr h5
          have b6 : (a0_0 == 6) = false := beq_eq_false_iff_ne.mpr h6
          have b7 : (a0_0 == 7) = false := beq_eq_false_iff_ne.mpr h7
          have b8 : (a0_0 == 8) = false := beq_eq_false_iff_ne.mpr h8
          clear h1 h2 h3 h4 h5 h6 h7 h8
          go_wp2_with fail
          go_ret
          exact ⟨rfl, HI.out.bel⟩
 case rest =>
  obtain ⟨rs, o0, o1, o2, o3, rb, rp, rg, r3, r4, Ag, cg, A3, c3, A4, c4, HI, HC3, HC4, HF⟩ := hcut
  unfold chkEnd at HF
  obtain ⟨y0, y1, y2, y3, y4, y5, y6, y7, y8, y9, y10, yf⟩ := HI.out.cells
  obtain ⟨z0, z1, z2, z3, z4, z5, z9, z10⟩ := HI.out.cellsC
  by_cases q0 : rs = 0
  ·subst q0
   have HF0 := HF.out
   rw [if_pos rfl] at HF0
   by_cases q1 : o0 = 0 ∧ o1 = 0 ∧ o2 = 0 ∧ o3 = 0
   ·obtain ⟨rfl, rfl, rfl, rfl⟩ := q1
    rw [if_pos ⟨rfl, rfl, rfl, rfl⟩] at HF0
    by_cases q2 : rb = 0
    ·subst q2
     rw [if_pos rfl] at HF0
     by_cases q3 : rp = 0
     ·subst q3
      rw [if_pos rfl] at HF0
      by_cases q4 : rg = []
      ·as_aux_lemma =>
       subst q4
       rw [if_pos rfl] at HF0
       obtain ⟨e, he, hF⟩ := Option.bind_eq_some_iff.mp HF0
       have HE := Aside0.mk he
       have HF2 := Aside0.mk hF
       clear HF HF0 he hF
       go_wp2_with fail
       refine (script_empty.calls A3 c3 r3 A4 c4 r4 e _ (Kd.C_below HC3.out.2 HI.out.bel) HC3.out.1 (Kd.C_below HC4.out.2 HI.out.bel) HC4.out.1 HE.out).mono ?_
       rintro e' w2 ⟨rfl, hd⟩
       have HI2 := Aside0.mk (HI.out.below hd)
       clear hd HI z0 z1 z2 z3 z4 z5 z9 z10 y0 y1 y2 y3 y4 y5 y6 y7 y8 y9 y10 yf
       obtain ⟨z0, z1, z2, z3, z4, z5, z9, z10⟩ := HI2.out.cellsC
       cases e with
       | false =>
        have hF := Option.some.inj (show some false = some r from HF2.out)
        subst hF
        go_wp2_with fail
        go_ret
        exact ⟨rfl, HI2.out.bel⟩
       | true =>
        have HF3 : Aside0 (script_fits.f [a0_1, a0_10] = some r) := ⟨HF2.out⟩
        have HR := Aside0.mk (Kd.R_reads' (lit_row2 w2 a0_1 a0_10))
        have HA := Aside0.mk (HI2.out.below (below_alloc (Below.refl _ _) (.cells #[.int .i64 a0_1, .int .i64 a0_10] 3)))
        clear HF2
        go_wp2_with fail
        refine (script_fits.calls _ 2 [a0_1, a0_10] r _ HR.out.2.2 (Nat.le_refl _) HF3.out).mono ?_
        rintro e' w3 ⟨rfl, hd⟩
        have HI3 := Aside0.mk (HA.out.below hd)
        clear hd HI2 HA HR z0 z1 z2 z3 z4 z5 z9 z10
        go_wp2_with fail
        go_ret
        exact ⟨rfl, HI3.out.bel⟩
      ·as_aux_lemma =>
       rw [if_neg q4] at HF0
       have HF0 := Option.some.inj HF0
       subst HF0
       obtain ⟨a, g', rfl⟩ := List.exists_cons_of_ne_nil q4
       have qd : decide ((0 : Int) < ((a :: g').length : Int)) = true := decide_eq_true (by simp)
       have qe : decide (0 < (a :: g').length) = true := decide_eq_true (by simp)
       clear HF q4
       go_wp2_with fail
       go_ret
       exact ⟨rfl, HI.out.bel⟩
     ·as_aux_lemma =>
      rw [if_neg q3] at HF0
      have HF0 := Option.some.inj HF0
      subst HF0
      have qb : (rp == 0) = false := beq_eq_false_iff_ne.mpr q3
      have qc : (rp != 0) = true := bne_iff_ne.mpr q3
      clear HF q3
      go_wp2_with fail
      go_ret
      exact ⟨rfl, HI.out.bel⟩
    ·as_aux_lemma =>
     rw [if_neg q2] at HF0
     have HF0 := Option.some.inj HF0
     subst HF0
     have qb : (rb == 0) = false := beq_eq_false_iff_ne.mpr q2
     have qc : (rb != 0) = true := bne_iff_ne.mpr q2
     clear HF q2
     go_wp2_with fail
     go_ret
     exact ⟨rfl, HI.out.bel⟩
   ·as_aux_lemma =>
    rw [if_neg q1] at HF0
    have HF0 := Option.some.inj HF0
    subst HF0
    clear HF
    by_cases p0 : o0 = 0
    ·subst p0
     by_cases p1 : o1 = 0
     ·subst p1
      by_cases p2 : o2 = 0
      ·as_aux_lemma =>
       subst p2
       have p3 : ¬ o3 = 0 := fun e => q1 ⟨rfl, rfl, rfl, e⟩
       have qb : (o3 == 0) = false := beq_eq_false_iff_ne.mpr p3
       clear q1 p3
       go_wp2_with fail
       go_ret
       exact ⟨rfl, HI.out.bel⟩
      ·as_aux_lemma =>
       have qb : (o2 == 0) = false := beq_eq_false_iff_ne.mpr p2
       clear q1 p2
       go_wp2_with fail
       go_ret
       exact ⟨rfl, HI.out.bel⟩
     ·as_aux_lemma =>
      have qb : (o1 == 0) = false := beq_eq_false_iff_ne.mpr p1
      clear q1 p1
      go_wp2_with fail
      go_ret
      exact ⟨rfl, HI.out.bel⟩
    ·as_aux_lemma =>
     have qb : (o0 == 0) = false := beq_eq_false_iff_ne.mpr p0
     clear q1 p0
     go_wp2_with fail
     go_ret
     exact ⟨rfl, HI.out.bel⟩
  ·as_aux_lemma =>
   have HF0 := HF.out
   rw [if_neg q0] at HF0
   have HF0 := Option.some.inj HF0
   subst HF0
   have qb : (rs == 0) = false := beq_eq_false_iff_ne.mpr q0
   have qc : (rs != 0) = true := bne_iff_ne.mpr q0
   clear HF q0
   go_wp2_with fail
   go_ret
   exact ⟨rfl, HI.out.bel⟩
def wire_put.l0 : Nat → List Int → List Int → Int → Int → Option (List Int)
  | 0, _, _, _, _ => none
  | k + 1, x0, x7, x8, x9 => if x9 < x8 then (if 0 ≤ x9 then (if x9 < (x7.length : Int) then (if x0.length < 140737488355328 then (wire_put.l0 k (x0 ++ [(rd x7 x9) % 256]) x7 x8 (wrap64 (x9 + 1))) else (none)) else (none)) else (none)) else (some x0)
def wire_put.f (k : Nat) (l0 : List Int) (l1 : List Int) : Option (List Int) := wire_put.l0 k l0 l1 (l1.length : Int) 0
theorem wire_put.mono_l : ∀ k, (∀ y0 y1 y2 y3, LeO (wire_put.l0 k y0 y1 y2 y3) (wire_put.l0 (k + 1) y0 y1 y2 y3))
  | 0 => fun _ _ _ _ r h => by simp [wire_put.l0] at h
  | k + 1 => by
    have ih0 := wire_put.mono_l k
    · intro y0 y1 y2 y3
      unfold wire_put.l0
      repeat' first
       | (with_reducible first | exact ih0 _ _ _ _ | exact LeO.refl _ | exact LeO.none _ | refine LeO.ite ?_ ?_ | refine LeO.bind ?_ (fun _ => ?_))
       | first | exact ih0 _ _ _ _ | exact LeO.none _ | refine LeO.ite ?_ ?_ | refine LeO.bind ?_ (fun _ => ?_)
theorem wire_put.mono : ∀ a0 a1 k, LeO (wire_put.f k a0 a1) (wire_put.f (k + 1) a0 a1) := by
  intro a0 a1 k
  have ih0 := wire_put.mono_l k
  unfold wire_put.f
  repeat' first
   | (with_reducible first | exact ih0 _ _ _ _ | exact LeO.refl _ | exact LeO.none _ | refine LeO.ite ?_ ?_ | refine LeO.bind ?_ (fun _ => ?_))
   | first | exact ih0 _ _ _ _ | exact LeO.none _ | refine LeO.ite ?_ ?_ | refine LeO.bind ?_ (fun _ => ?_)
set_option maxHeartbeats 8000000 in
set_option maxRecDepth 100000 in
theorem wire_put.calls (k : Nat) (P0_ : Nat → Prop) (u9000_ : Value) (l0 : List Int) (A1 : Option Addr) (c1 : Nat) (l1 : List Int) (r : List Int) (w0 w : World) (hB : Below w0.heap.size w0 w) (ho0 : Kd.R (Kd.int .u8) 5 w w0.heap.size P0_ u9000_ l0) (hr1 : ∀ W_, Kept w W_ (fun k_ => P0_ k_) → Kd.C (Kd.int .i64) W_ A1 l1.length l1) (hc1 : l1.length ≤ c1) (h : wire_put.f k l0 l1 = some r) :
    Calls Try.prog 38 #[u9000_, .slice A1 l1.length c1] w fun e w' => ∃ v0_ : Value, e = .returned (v0_) ∧ Kd.R (Kd.int .u8) 5 w' w0.heap.size (fun k_ => (P0_ k_ ∨ w.heap.size ≤ k_)) v0_ r ∧ Below w0.heap.size w0 w' ∧ Kept w w' (fun k_ => P0_ k_) := by
  have HO0 := Aside0.mk (show Kd.R (Kd.int .u8) 5 w w0.heap.size (fun k_ => (P0_ k_ ∨ w.heap.size ≤ k_)) u9000_ l0 from Kd.R_mono ho0 (fun k_ hk => (.inl hk)))
  have HR1 := Aside0.mk hr1
  have HC1 := Aside0.mk hc1
  clear hr1 hc1
  have HK := Aside0.mk (Kept.refl w (fun k_ => P0_ k_))
  have HW0 := Aside0.mk hB.size
  have HB := Aside0.mk hB
  clear hB
  have H : (wire_put.l0 k l0 l1 (l1.length : Int) 0) = some r := h
  clear h
  have H' := Aside0.mk H
  clear H
  go_enter Try.func38, Try.ntmps38
  go_wp2
  go_loopg [0, 9] k (fun kq v0 v9 w' => ∃ (x0_1 : List Int) (x9_1 : Int), v9 = .int .i64 x9_1 ∧ Aside0 (wire_put.l0 kq x0_1 l1 (l1.length : Int) x9_1 = some r) ∧ Aside0 (kq ≤ k) ∧ Aside0 (Kd.R (Kd.int .u8) 5 w' w0.heap.size (fun k_ => (P0_ k_ ∨ w.heap.size ≤ k_)) v0 x0_1) ∧ Aside0 (Kept w w' (fun k_ => P0_ k_)) ∧ Aside0 (Below w0.heap.size w0 w'))
  case atStart => exact ⟨(l0), (0), (by first | rfl | (simp; done) | (simp [*]; done)), H', ⟨Nat.le_refl _⟩, ⟨mvR_ HO0.out⟩, ⟨by repeat (first | (with_reducible first | exact HK.out | apply Kept.alloc | apply Kept.drewN | apply Kept.drew) | exact HK.out)⟩, ⟨bq0_ HB.out⟩⟩
  case round =>
    clear H'
    try clear c1
    try clear p2
    obtain ⟨x0_1, x9_1, rfl, HA, HK1, HO_0, HK, HB⟩ := hrel
    cases gk with
    | zero => exact absurd HA.out (by simp [wire_put.l0])
    | succ k1 =>
      have H := HA.out
      clear HA
      simp only [wire_put.l0] at H
      by_cases c3 : x9_1 < (l1.length : Int)
      · rw [if_pos c3] at H
        have c3b0 : decide (x9_1 < (l1.length : Int)) = true := decide_eq_true c3
        clear c3
        by_cases c4 : 0 ≤ x9_1
        · rw [if_pos c4] at H
          have c4b0 : decide (0 ≤ x9_1) = true := decide_eq_true c4
          clear c4
          by_cases c5 : x9_1 < (l1.length : Int)
          · rw [if_pos c5] at H
            have c5b0 : decide (x9_1 < (l1.length : Int)) = true := decide_eq_true c5
            clear c5
            by_cases c6 : x0_1.length < 140737488355328
            · rw [if_pos c6] at H
              have LMc6 := Aside0.mk c6
              clear c6
              obtain ⟨y120, hy120⟩ : ∃ y_ : List Int, y_ = (x0_1 ++ [(rd l1 x9_1) % 256]) := ⟨_, rfl⟩
              replace H : (wire_put.l0 k1 y120 l1 (l1.length : Int) (wrap64 (x9_1 + 1))) = some r := by first | (rw [hy120]; with_reducible exact H) | (have H2_ := (Option.bind_some _ _).symm.trans H; rw [hy120]; with_reducible exact H2_) | (have H2_ := (Option.bind_some _ _).symm.trans H; with_reducible exact H2_) | with_reducible exact H | (rw [hy120]; exact H) | exact H
              have Ny120 := Aside0.mk hy120
              clear hy120
              have H' := Aside0.mk H
              clear H
              have p119 : 0 ≤ (x9_1 : Int) := of_decide_eq_true (by first | (with_reducible assumption) | assumption)
              have q119 : x9_1 < (l1.length : Int) := of_decide_eq_true (by first | (with_reducible assumption) | assumption)
              obtain ⟨ad119, e119, hx119_0⟩ := Kd.at_int (Kd.C_kept_now HR1.out HK.out) x9_1 p119 q119
              cases e119
              replace p119 := eq_true p119
              replace q119 := eq_true q119
              go_wp2_with (first | ((with_reducible refine gate_builtin (b := .append) (xs := #[.tmp 13, .tmp 16]) rfl ?_); at_builtin; refine Kd.R_append (Kd.int .u8) (w0 := w0) w0.heap.size rfl (.tmp 13) (.tmp 16) 31 5 (.int .u8 0) 1 rfl Try.underlying31 info5 rfl (by decide) (by omega) u0 x0_1 ((rd l1 x9_1) % 256) [.int .u8 ((rd l1 x9_1) % 256)] (fun k_ => (P0_ k_ ∨ w.heap.size ≤ k_)) (fun _ => False) rfl rfl ?aP (fun _ hk => hk.elim) ?aF ?aO ?aB ?aS ?aL ?_; (case aP => exact rfl); (case aB => exact (bq0_ HB.out)); (case aF => exact (fun k_ hk => (.inr (Nat.le_trans (by first | exact HK.out.1 | exact (show Kept w _ (fun k_ => P0_ k_) from by repeat (first | (with_reducible first | exact HK.out | apply Kept.alloc | apply Kept.drewN | apply Kept.drew) | exact HK.out)).1) hk)))); (case aO => exact (mvR_ HO_0.out)); (case aS => exact (below_size (bq0_ HB.out))); (case aL => have := LMc6.out; omega); intro v121 w7 ho hb hg hat; rw [← Ny120.out] at ho; have HO122 := Aside0.mk (ho); replace HB := Aside0.mk (hb); replace HK := Aside0.mk (Kept.of_grown (S := (fun k_ => P0_ k_)) hg (by repeat (first | (with_reducible first | exact HK.out | apply Kept.alloc | apply Kept.drewN | apply Kept.drew) | exact HK.out)) (fun k_ e_ => (HO_0.out.1 k_ e_))); clear HO_0 ho hb hg hat))
              go_roundg k1
              case measure => have := HK1.out; omega
              case rel => exact ⟨(y120), (wrap64 (x9_1 + 1)), (by first | rfl | (simp; done) | (simp [*]; done)), H', ⟨by have := HK1.out; omega⟩, ⟨mvR_ HO122.out⟩, ⟨by repeat (first | (with_reducible first | exact HK.out | apply Kept.alloc | apply Kept.drewN | apply Kept.drew) | exact HK.out)⟩, ⟨bq0_ HB.out⟩⟩
            · rw [if_neg c6] at H
              exact absurd H (by simp)
          · rw [if_neg c5] at H
            exact absurd H (by simp)
        · rw [if_neg c4] at H
          exact absurd H (by simp)
      · rw [if_neg c3] at H
        have c3b0 : decide (x9_1 < (l1.length : Int)) = false := decide_eq_false c3
        clear c3
        obtain rfl := Option.some.inj H
        go_wp2
        go_ret
        exact ⟨_, by first | rfl | (simp <;> rfl) | (simp [*] <;> rfl), mvR_ HO_0.out, bq0_ HB.out, by repeat (first | (with_reducible first | exact HK.out | apply Kept.alloc | apply Kept.drewN | apply Kept.drew) | exact HK.out)⟩
def slices_Clone_byte_byte.f (l0 : List Int) : Option (List Int) := if l0.length < 140737488355328 then some l0 else none
set_option maxHeartbeats 8000000 in
set_option maxRecDepth 100000 in
theorem slices_Clone_byte_byte.calls (A0 : Option Addr) (c0 : Nat) (l0 : List Int) (r : List Int) (w : World) (hr0 : Kd.C (Kd.int .u8) w A0 l0.length l0) (hc0 : l0.length ≤ c0) (h : slices_Clone_byte_byte.f l0 = some r) :
    Calls Try.prog 25 #[.slice A0 l0.length c0] w fun e w' => ∃ v0_ : Value, e = .returned (v0_) ∧ Kd.R (Kd.int .u8) 5 w' w.heap.size (fun _ => True) v0_ r ∧ Below w.heap.size w w' := by
  unfold slices_Clone_byte_byte.f at h
  by_cases hl : l0.length < 140737488355328
  · rw [if_pos hl] at h
    obtain rfl := Option.some.inj h
    have HL := Aside0.mk hl
    have HR0 := Aside0.mk hr0
    have HC0 := Aside0.mk hc0
    have HB := Aside0.mk (Below.refl w.heap.size w)
    clear hl h
    cases A0 with
    | none =>
      have h0 : l0 = [] := by
        by_cases hn : l0 = []
        · exact hn
        · exfalso
          obtain ⟨ad, he, _⟩ := Kd.at_int HR0.out 0 (by omega) (by have := List.length_pos_iff.mpr hn; omega)
          cases he
      subst h0
      clear hr0 hc0
      have hne : ∀ W : World, (binOp .eql 31 (.slice none 0 c0) (.slice none 0 0)).run Try.prog W = .ok (.bool true) W := fun W => Lib.run_eql_slice_nil W 31 5 none 0 c0 0 0 Try.underlying31
      simp only [List.length_nil]
      go_enter Try.func25, Try.ntmps25
      go_wp2
      go_ret
      exact ⟨_, rfl, Kd.R_nil _ _ _ _ _, HB.out⟩
    | some ad =>
      clear hr0 hc0
      have hne : ∀ W : World, (binOp .eql 31 (.slice (some ad) l0.length c0) (.slice none 0 0)).run Try.prog W = .ok (.bool false) W := fun W => Lib.run_eql_slice_nil W 31 5 (some ad) l0.length c0 0 0 Try.underlying31
      obtain ⟨y1, hy1⟩ : ∃ y_ : List Int, y_ = ([] : List Int) := ⟨_, rfl⟩
      have Ny1 := Aside0.mk hy1
      obtain ⟨y2, hy2⟩ : ∃ y_ : List Int, y_ = y1 ++ l0 := ⟨_, rfl⟩
      have Ny2 := Aside0.mk hy2
      have he : y2 = l0 := by rw [hy2, hy1]; rfl
      have HE := Aside0.mk he
      clear hy1 hy2 he
      go_enter Try.func25, Try.ntmps25
      go_wp2_with (first | ((with_reducible refine gate_dst (N := 5) rfl ?_); refine Kd.R_lit (Kd.int .u8) _ 5 ?hg (N := 5) ?hd (xs := ([] : List Int)) (inner := []) (ok := fun _ => True) (okp := fun _ => True) ?hr ?hp (fun _ hk => hk) trivial (Below.refl _ _) (Nat.le_refl _) (by simp) ?_; (case hd => rfl); (case hg => rfl); (case hr => first | (go_simp; done) | (go_simp; rfl)); (case hp => exact (Reps.none _ _)); intro v218 w4 ho5 hb hg_ hnew_; clear hg_ hnew_; rw [← Ny1.out] at ho5; have n0_ := Aside0.mk (Kd.R_lower ho5 (below_size (by repeat (first | (with_reducible first | exact HB.out | apply below_alloc | apply pw_below_drewN | apply below_drew1) | exact HB.out)))); have n1_ := Aside0.mk (below_step (by repeat (first | (with_reducible first | exact HB.out | apply below_alloc | apply pw_below_drewN | apply below_drew1) | exact HB.out)) hb); clear HB; have HO219 := n0_; have HB := n1_; clear n0_ n1_; clear hb ho5) | ((with_reducible refine gate_builtin (b := .append) (xs := #[.tmp 5, .tmp 6]) rfl ?_); at_builtin; refine Kd.R_append_rows (Kd.int .u8) (w0 := w) w.heap.size rfl (.tmp 5) (.tmp 6) 31 5 (.int .u8 0) 1 rfl Try.underlying31 info5 rfl (by decide) (by omega) v218 y1 l0 _ _ _ (fun _ => True) (fun _ => False) rfl rfl ?aO ?aR (fun _ _ h => h) (fun _ h => h.elim) ?aF ?aB ?aS ?aL ?_; (case aR => repeat (first | exact (Kd.C_below HR0.out HB.out) | (with_reducible refine Kd.C_alloc ?_ _) | (with_reducible refine Kd.C_drewN ?_ _) | (with_reducible refine Kd.C_drew ?_))); (case aB => exact (by repeat (first | (with_reducible first | exact HB.out | apply below_alloc | apply pw_below_drewN | apply below_drew1) | exact HB.out))); (case aF => exact (fun _ _ => trivial)); (case aO => exact (by (with_reducible repeat (first | apply Kd.R_alloc | apply Kd.R_drewN | apply Kd.R_drew)); exact HO219.out)); (case aS => exact (below_size (by repeat (first | (with_reducible first | exact HB.out | apply below_alloc | apply pw_below_drewN | apply below_drew1) | exact HB.out)))); (case aL => have := HL.out; have h3 := Ny1.out; rw [h3]; simp; omega); intro v221 w6 ho hb hg hat; rw [← Ny2.out, HE.out] at ho; have n0_ := Aside0.mk (hb); have n1_ := Aside0.mk (ho); clear HB; clear HO219; have HB := n0_; have HO222 := n1_; clear n0_ n1_; clear ho hb hg hat))
      go_ret
      exact ⟨_, rfl, by (with_reducible repeat (first | apply Kd.R_alloc | apply Kd.R_drewN | apply Kd.R_drew)); exact HO222.out, HB.out⟩
  · rw [if_neg hl] at h; cases h
theorem wp_hid {P : Program} {c : Code} {Q : Exit → Act → World → Prop} {a : Act} {w : World} (h : ∀ Q', Aside0 (Q' = Q) → c.wp P Q' a w) : c.wp P Q a w := h Q ⟨rfl⟩
def wrongR : PanicEntry := { v := .iface 110 (.agg #[]), recovered := true }
theorem pack_told.idle (pe : Addr) (F : Value) (w : World) :
    CallsD Try.prog 67 #[.pointer (some pe), F] .returning w fun e u' w' => e = .returned (.tuple #[]) ∧ u' = .returning ∧ w = w' := by
  refine callsD_of_wpS Try.func67 rfl fun c₀ cs hu => ?_
  apply wpS_seq
  apply wpS_region
  simp [wpOpsS, go_sem, recoverD, hu, Try.ntmps67, Exit.thenS]
  have hf : #[Value.pointer (some pe), F] ++ (Array.replicate 15 undef).setIfInBounds 5 Value.nilIface = #[Value.pointer (some pe), F, undef, undef, undef, undef, undef, Value.nilIface, undef, undef, undef, undef, undef, undef, undef, undef, undef] := rfl
  rw [hf]
  refine wpS_of_wp (wp_hid fun Q' hQ' => ?_)
  have HU := Aside0.mk hu
  clear hu hf
  go_wp2
  rw [hQ'.out]
  refine ⟨rfl, .returning, ?_, .tuple #[], by simp [results, Try.results67, go_sem], rfl, rfl, rfl⟩
  rw [← HU.out]
set_option maxRecDepth 100000 in
theorem pack_told.wrong (pe : Addr) (g : FuncId) (caps : Array Value) (x : Value) (older : List PanicEntry) (w : World) (Q : World → Prop)
    (hcf : ∀ W : World, (callFunc g caps).run Try.prog W = .ok (.enter g caps) W) (hc : Calls Try.prog g caps (w.alloc (.cells #[] 110)) fun e w' => e = .returned (.tuple #[]) ∧ Q w' ∧ w'.cell? pe = some x ∧ w'.frozen? pe = false) :
    CallsD Try.prog 67 #[.pointer (some pe), .func (.func g) #[] caps] (.panicking ({ v := .iface 110 (.agg #[]), recovered := false } :: older)) w fun e u' w' =>
      e = .returned (.tuple #[]) ∧ u' = .panicking (wrongR :: older) ∧ ∃ w1, Q w1 ∧ w1.setCell pe (.int .i64 40) = w' := by
  refine callsD_of_wpS Try.func67 rfl fun c₀ cs hu => ?_
  apply wpS_seq
  apply wpS_region
  simp [wpOpsS, go_sem, recoverD, hu, Try.ntmps67, Exit.thenS]
  have hf : #[Value.pointer (some pe), Value.func (.func g) #[] caps] ++ (Array.replicate 15 undef).setIfInBounds 5 (.iface 110 (.agg #[])) = #[Value.pointer (some pe), Value.func (.func g) #[] caps, undef, undef, undef, undef, undef, .iface 110 (.agg #[]), undef, undef, undef, undef, undef, undef, undef, undef, undef] := rfl
  rw [hf]
  refine wpS_of_wp (wp_hid fun Q' hQ' => ?_)
  have HU := Aside0.mk hu
  have HC := Aside0.mk hc
  clear hu hf hc
  have hta : ∀ W : World, (Instr.typeAssert (.iface 110 (.agg #[])) 20 110 true).run Try.prog W = .ok (.tuple #[.agg #[], .bool true]) W := fun W => by rfl
  go_wp2_with ((with_reducible refine (HC.out).mono ?_); rintro e w1 ⟨rfl, hq, hcell, hfree⟩; have HQ := Aside0.mk hq; clear hq)
  rw [hQ'.out]
  refine ⟨rfl, _, rfl, .tuple #[], by simp [results, Try.results67, go_sem], rfl, rfl, _, HQ.out, rfl⟩
def pack_must.f (a0 : Bool) : Option Unit := if a0 = true then some () else none
theorem pack_must.ok (w : World) : Calls Try.prog 81 #[.bool true] w fun e w' => e = .returned (.tuple #[]) ∧ w = w' := by
  go_enter Try.func81, Try.ntmps81
  go_wp2
  go_end0
  exact ⟨rfl, rfl⟩
theorem pack_must.calls (a0 : Bool) (w : World) (h : pack_must.f a0 = some ()) : Calls Try.prog 81 #[.bool a0] w fun e w' => e = .returned (.tuple #[]) ∧ Drawn0 w w' := by
  cases a0 with
  | true => exact (pack_must.ok w).mono fun e w' ⟨he, hw⟩ => ⟨he, by rw [← hw]; exact Drawn0.refl _⟩
  | false => simp [pack_must.f] at h
def wrongE : PanicEntry := { v := .iface 110 (.agg #[]), recovered := false }
theorem pack_must.no (w : World) : Calls Try.prog 81 #[.bool false] w fun e w' => e = .panicked [wrongE] ∧ w = w' := by
  go_enter Try.func81, Try.ntmps81
  go_wp2
  exact ⟨rfl, rfl, rfl⟩
def okSize (n : Int) : Bool := n == 1 || n == 2 || n == 8
def pack_bits.f (a0 : Int) : Option Int := if okSize a0 = true then some (8 * a0) else none
theorem pack_bits.ok (a0 : Int) (h : okSize a0 = true) (w : World) : Calls Try.prog 69 #[.int .i64 a0] w fun e w' => e = .returned (.int .i64 (8 * a0)) ∧ w = w' := by
  have h3 : a0 = 1 ∨ a0 = 2 ∨ a0 = 8 := by simpa [okSize, or_assoc] using h
  rcases h3 with rfl | rfl | rfl
  all_goals
    go_enter Try.func69, Try.ntmps69
    go_wp2_with (go_at_call 81; (with_reducible refine (pack_must.ok _).mono ?_); rintro e w' ⟨rfl, rfl⟩)
    go_ret
    exact ⟨rfl, rfl⟩
theorem pack_bits.calls (a0 : Int) (r : Int) (w : World) (h : pack_bits.f a0 = some r) : Calls Try.prog 69 #[.int .i64 a0] w fun e w' => e = .returned (.int .i64 r) ∧ Drawn0 w w' := by
  unfold pack_bits.f at h
  by_cases hk : okSize a0 = true
  · rw [if_pos hk] at h
    obtain rfl := Option.some.inj h
    exact (pack_bits.ok a0 hk w).mono fun e w' ⟨he, hw⟩ => ⟨he, by rw [← hw]; exact Drawn0.refl _⟩
  · rw [if_neg hk] at h; cases h
theorem pack_bits.no (a0 : Int) (h : okSize a0 = false) (w : World) : Calls Try.prog 69 #[.int .i64 a0] w fun e w' => e = .panicked [wrongE] ∧ w = w' := by
  have h1 : (a0 == 1) = false := by simp [okSize] at h; simp [h]
  have h2 : (a0 == 2) = false := by simp [okSize] at h; simp [h]
  have h3 : (a0 == 8) = false := by simp [okSize] at h; simp [h]
  clear h
  go_enter Try.func69, Try.ntmps69
  go_wp2_with (go_at_call 81; (with_reducible refine (pack_must.no _).mono ?_); rintro e w' ⟨rfl, rfl⟩)
  exact ⟨rfl, rfl, rfl⟩
end Go.Proofs.Ytjcgadfmhfhbgaa.A
