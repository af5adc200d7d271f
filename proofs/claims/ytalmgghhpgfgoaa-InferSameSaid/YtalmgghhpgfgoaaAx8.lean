/- Lean functions that answer as the Go functions do, and the proofs that they do; no conditions. Written by this session's own driver: a scratch copy of the kit's print with the session's additions (wip/xprint). -/
import Derived.Test.YtalmgghhpgfgoaaAx0
import Derived.Test.YtalmgghhpgfgoaaAx1
import Derived.Test.YtalmgghhpgfgoaaAx2
import Derived.Test.YtalmgghhpgfgoaaAx3
import Derived.Test.YtalmgghhpgfgoaaAx4
import Derived.Test.YtalmgghhpgfgoaaAx5
import Derived.Test.YtalmgghhpgfgoaaAx6
import Derived.Test.YtalmgghhpgfgoaaAx7
namespace Go.Proofs.Ytalmgghhpgfgoaa.A
open Go.RowKit Go.Proofs.YtalmgghhpgfgoaaW.PrintWords Go.Proofs.YtalmgghhpgfgoaaW.PrintLast Go.Proofs.YtalmgghhpgfgoaaW.PrintMore
attribute [local go_sem] max2_int min2_int max_two min_two max_three min_three max_four min_four   -- for this text's walks alone
set_option linter.unusedVariables false
set_option linter.unusedSimpArgs false

/-! ### infer_Node: function 11 (given) -/
theorem run_make23 (m : Nat) (hm : (m : Int) < 17592186044416) (W : World) : (Instr.makeSlice 23 (.int .i64 (m : Int)) (.int .i64 (m : Int))).run Try.prog W = .ok (.slice (some ⟨W.heap.size, 0, none⟩) m m) (W.alloc (.cells (encs (Value.int .i64) (List.replicate m 0)).toArray 3)) := by
 obtain ⟨i0, hi, hz0, hz1, hz2⟩ := info_parts info3
 have h := run_make (P := Try.prog) W 23 3 i0 (.int .i64 0) Try.underlying23 hi hz0 .i64 .i64 (m : Int) (m : Int) (by omega) (by omega) (by rw [hz2]; omega) (by omega)
 rw [h, hz1]
 congr 2
 simp only [Int.toNat_natCast]
 congr 1
 apply Array.ext
 ·simp [size_madeCells, encs]
 ·intro i h1 h2
  simp [madeCells, encs, Value.cells, Nat.mod_one]
theorem mk_run23 {o : Oper} {a : Act} {m : Nat} (hm : m < 17592186044416) (W : World) {x : Operand} (ho : o.op = .makeSlice 23 x x) (hx : a.eval x = .int .i64 (m : Int)) : (execOp a.eval o).run Try.prog W = .ok (.value (.slice (some ⟨W.heap.size, 0, none⟩) m m)) (W.alloc (.cells (encs (Value.int .i64) (List.replicate m 0)).toArray 3)) := by
 have hr := run_make23 m (by omega) W
 simp [execOp, ho, hx, hr]
theorem val_step {P : Program} {ops : Array Oper} {Q : Exit → Act → World → Prop} {oi : Oper} {a : Act} {w w1 : World} {K : Act → World → Prop} {v : Value} {N : Option Tmp} (hw : Region.wanted oi (yielded ops a.tmps) = true) (hN : oi.dst = N) (hrun : (execOp a.eval oi).run P w = .ok (.value v) w1)
  (h : K (a.put N v) w1) : if Region.wanted oi (yielded ops a.tmps) = true then Oper.wp P oi a w K Q else K (a.put N undef) w := by
 rw [if_pos hw]
 unfold Oper.wp
 rw [hrun]
 subst hN
 exact h
theorem nd_lit {o : Oper} {a : Act} (W : World) (ho : o.op = .buildSlice 23 1 #[(0, .const (.int .i64 0))]) : (execOp a.eval o).run Try.prog W = .ok (.value (.slice (some ⟨W.heap.size, 0, none⟩) 1 1)) (W.alloc (.cells #[.int .i64 0] 3)) := by
 obtain ⟨dst, op, type, pos, after, guard⟩ := o
 simp only at ho
 subst ho
 go_simp
theorem nd_lit2' {o : Oper} {ev : Operand → Value} (W : World) {x y : Operand} {u1 u2 u3 u4 u5 u6 : Value} (ho : o.op = .buildSlice 22 2 #[(0, x), (1, y)]) (hx : ev x = .agg #[u1, u2, u3]) (hy : ev y = .agg #[u4, u5, u6]) : (execOp ev o).run Try.prog W = .ok (.value (.slice (some ⟨W.heap.size, 0, none⟩) 2 2)) (W.alloc (.cells #[u1, u2, u3, u4, u5, u6] 25)) := by
 obtain ⟨dst, op, type, pos, after, guard⟩ := o
 simp only at ho
 subst ho
 go_simp
theorem nd_lit2 {o : Oper} {a : Act} (W : World) {x y : Operand} {u1 u2 u3 u4 u5 u6 : Value} (ho : o.op = .buildSlice 22 2 #[(0, x), (1, y)]) (hx : a.eval x = .agg #[u1, u2, u3]) (hy : a.eval y = .agg #[u4, u5, u6]) : (execOp a.eval o).run Try.prog W = .ok (.value (.slice (some ⟨W.heap.size, 0, none⟩) 2 2)) (W.alloc (.cells #[u1, u2, u3, u4, u5, u6] 25)) := nd_lit2' W ho hx hy
theorem nd_look {o : Oper} {a : Act} {W : World} {b : Nat} {es : List (Int × Value)} {op : Int} {v : Value} {x y : Operand} (hIM : IM W b es) (hv : imGet op es = some v) (hz : (zeroValue 48).run Try.prog W = .ok .nilFunc W) (ho : o.op = .lookup 49 x y false) (hx : a.eval x = .map (some b)) (hy : a.eval y = .int .i64 op) : (execOp a.eval o).run Try.prog W = .ok (.value v) W := by
 have h := hIM.look1 (P := Try.prog) Try.underlying49 Try.underlying3 hz op
 rw [hv] at h
 simp only [Option.getD_some] at h
 simp [execOp, ho, hx, hy, h, Result.andThen]
/-- What is known while a graph of one node more is made. -/
structure NdInv (w0 : World) (nb : Nat) (op : Int) (v1 v2 : Value) (m : Nat) (g10 g18 : Option Nat) (W : World) : Prop where
 bel : Below w0.heap.size w0 W
 bn : W.heap[nb]? = some (.cells #[.int .i64 op, v1, v2] 25 (0, 0))
 b10 : ∀ g, g10 = some g → W.heap[g]? = some (.cells #[.int .i64 0] 3 (0, 0))
 b18 : ∀ g, g18 = some g → W.heap[g]? = some (.cells (encs (Value.int .i64) (List.replicate m 0)).toArray 3 (0, 0))
theorem NdInv.grow {w0 W W' : World} {nb : Nat} {op : Int} {v1 v2 : Value} {m : Nat} {g10 g18 : Option Nat} (h : NdInv w0 nb op v1 v2 m g10 g18 W) (hb : Below W.heap.size W W') : NdInv w0 nb op v1 v2 m g10 g18 W' :=
 ⟨below_step h.bel hb, blk_below h.bn hb, fun g e => blk_below (h.b10 g e) hb, fun g e => blk_below (h.b18 g e) hb⟩
theorem NdInv.one {w0 W : World} {nb : Nat} {op : Int} {v1 v2 : Value} {m : Nat} {g18 : Option Nat} (h : NdInv w0 nb op v1 v2 m none g18 W) : NdInv w0 nb op v1 v2 m (some W.heap.size) g18 (W.alloc (.cells #[.int .i64 0] 3)) := by
 have h' := h.grow (below_alloc (Below.refl W.heap.size W) (.cells #[.int .i64 0] 3))
 exact ⟨h'.bel, h'.bn, fun g e => by cases e; exact blk_new _ _, h'.b18⟩
theorem NdInv.two {w0 W : World} {nb : Nat} {op : Int} {v1 v2 : Value} {m : Nat} {g10 : Option Nat} (h : NdInv w0 nb op v1 v2 m g10 none W) : NdInv w0 nb op v1 v2 m g10 (some W.heap.size) (W.alloc (.cells (encs (Value.int .i64) (List.replicate m 0)).toArray 3)) := by
 have h' := h.grow (below_alloc (Below.refl W.heap.size W) (.cells (encs (Value.int .i64) (List.replicate m 0)).toArray 3))
 exact ⟨h'.bel, h'.bn, h'.b10, fun g e => by cases e; exact blk_new _ _⟩
theorem NdInv.held {w0 W : World} {nb : Nat} {op : Int} {v1 v2 : Value} {m : Nat} {g10 g18 : Option Nat} (h : NdInv w0 nb op v1 v2 m g10 g18 W) : W.cell? ⟨nb, 0, none⟩ = some (.int .i64 op) ∧ W.cell? ⟨nb, 2, none⟩ = some v2 :=
 ⟨(blk_cell h.bn 0).trans rfl, (blk_cell h.bn 2).trans rfl⟩
theorem C_blk {W : World} {g : Nat} {xs : List Int} (h : W.heap[g]? = some (.cells (encs (Value.int .i64) xs).toArray 3 (0, 0))) (hl : xs.length ≤ 9223372036854775807) : Kd.C (Kd.int .i64) W (some ⟨g, 0, none⟩) xs.length xs := by
 refine ⟨rfl, hl, fun _ => ⟨_, rfl, fun j p hj => ⟨[.int .i64 p], rfl, rfl, fun i u hu => ?_⟩⟩⟩
 cases i with
 | zero =>
  simp at hu
  subst hu
  rw [show (Kd.int .i64).sz = 1 from rfl, Addr.add_lit, Nat.zero_add, Nat.mul_one, Nat.add_zero, blk_cell h]
  simp [encs, hj]
 | succ i => simp at hu
/-- The graph of one node more. -/
def ndG (op : Int) (m : Nat) (nums : List Int) : List S25 := [⟨3, [], [0]⟩, ⟨op, List.replicate m 0, nums⟩]
theorem ndG_C {W : World} {G g10 g18 : Nat} {op : Int} {m : Nat} {nums : List Int} {A2 : Option Addr} {c2 : Nat} (hG : W.heap[G]? = some (.cells #[.int .i64 3, .slice none 0 0, .slice (some ⟨g10, 0, none⟩) 1 1, .int .i64 op, .slice (some ⟨g18, 0, none⟩) m m, .slice A2 nums.length c2] 25 (0, 0)))
  (h10 : W.heap[g10]? = some (.cells #[.int .i64 0] 3 (0, 0))) (h18 : W.heap[g18]? = some (.cells (encs (Value.int .i64) (List.replicate m 0)).toArray 3 (0, 0))) (hm : m < 17592186044416) (h2 : Kd.C (Kd.int .i64) W A2 nums.length nums) (hc : nums.length ≤ c2) : Kd.C k25 W (some ⟨G, 0, none⟩) (ndG op m nums).length (ndG op m nums) := by
 have e10 : Kd.C (Kd.int .i64) W (some ⟨g10, 0, none⟩) ([0] : List Int).length [0] := C_blk h10 (by simp)
 have e18 : Kd.C (Kd.int .i64) W (some ⟨g18, 0, none⟩) (List.replicate m (0 : Int)).length (List.replicate m 0) := C_blk h18 (by simp; omega)
 have e0 : Kd.C (Kd.int .i64) W none ([] : List Int).length [] := ⟨rfl, by simp, fun h => absurd h (by simp)⟩
 have k0 := k25_mk W (⟨3, [], [0]⟩ : S25) (A1 := none) (c1 := 0) (by simp) e0 (A2 := some ⟨g10, 0, none⟩) (c2 := 1) (by simp) e10
 have k1 := k25_mk W (⟨op, List.replicate m 0, nums⟩ : S25) (A1 := some ⟨g18, 0, none⟩) (c1 := m) (by simp) e18 (A2 := A2) (c2 := c2) hc h2
 refine ⟨rfl, by simp [ndG], fun _ => ⟨_, rfl, fun j p hj => ?_⟩⟩
 match j, hj with
 | 0, hj =>
  simp [ndG] at hj
  subst hj
  refine ⟨_, rfl, k0, fun i u hu => ?_⟩
  match i, hu with
  | 0, hu => simp at hu; subst hu; exact (blk_cell hG 0).trans rfl
  | 1, hu => simp at hu; subst hu; exact (blk_cell hG 1).trans rfl
  | 2, hu => simp at hu; subst hu; exact (blk_cell hG 2).trans rfl
  | i + 3, hu => simp at hu
 | 1, hj =>
  simp [ndG] at hj
  subst hj
  refine ⟨_, rfl, k1, fun i u hu => ?_⟩
  match i, hu with
  | 0, hu => simp at hu; subst hu; exact (blk_cell hG 3).trans rfl
  | 1, hu => simp at hu; subst hu; exact (blk_cell hG 4).trans (by simp)
  | 2, hu => simp at hu; subst hu; exact (blk_cell hG 5).trans rfl
  | i + 3, hu => simp at hu
 | j + 2, hj => simp [ndG] at hj
/-- Is a row no shape? -/
def wrongS (s : List Int) : Bool := (infer_Node_1.f 8 s).getD false
theorem wrongS_f (s : List Int) : infer_Node_1.f 8 s = some (wrongS s) := by
 have : ∃ r, infer_Node_1.f 8 s = some r := by
  unfold infer_Node_1.f
  obtain ⟨r, hr⟩ := gc_shape s
  rw [hr]
  exact ⟨_, rfl⟩
 obtain ⟨r, hr⟩ := this
 rw [wrongS, hr]
 rfl
def infer_Node.f (k : Nat) (a0_0 : Int) (l0_1 l0_2 : List Int) (l1 : List (List Int)) : Option (List Int × Int) :=
 if (l1.length : Int) ≠ aritV a0_0 then some ([], 20) else if gchk (ndG a0_0 (mx 0 (aritV a0_0)).toNat l0_2) = false then some ([], 20) else if l1.any wrongS = true then some ([], 20)
 else (infRule k a0_0 l1 l0_2).bind fun r => some (if r.2 = true then (r.1, 0) else ([], 20))
theorem arit_le (op : Int) : aritV op ≤ 2 := by
 unfold aritV
 cases h : gkind op with
 | none => simp
 | some kd =>
  have : ∀ p ∈ kindL, p.2.1 ≤ 2 := by decide
  exact this _ (gkind_mem h)
theorem gchk_kind {op : Int} {m : Nat} {nums : List Int} (h : gchk (ndG op m nums) = true) : (gkind op).isSome = true := by
 unfold gchk at h
 cases hg : gkind op with
 | some kd => rfl
 | none =>
  exfalso
  simp [ndG, gall, gstep, hg] at h
  split at h <;> cases h
set_option maxHeartbeats 8000000 in
set_option maxRecDepth 100000 in
theorem infer_Node.calls (k : Nat) (a0_0 : Int) (A0_1 : Option Addr) (c0_1 : Nat) (l0_1 : List Int) (A0_2 : Option Addr) (c0_2 : Nat) (l0_2 : List Int) (A1 : Option Addr) (c1 : Nat) (l1 : List (List Int)) (r1 : List Int) (r2 : Int) (w : World) (hr0_1 : Kd.C (Kd.int .i64) w A0_1 l0_1.length l0_1) (hc0_1 : l0_1.length ≤ c0_1) (hr0_2 : Kd.C (Kd.int .i64) w A0_2 l0_2.length l0_2) (hc0_2 : l0_2.length ≤ c0_2) (hr1 : Kd.C (Kd.slice 3 (Kd.int .i64)) w A1 l1.length l1) (hc1 : l1.length ≤ c1) (h : infer_Node.f k a0_0 l0_1 l0_2 l1 = some (r1, r2)) :
  Calls Try.prog 11 #[.agg #[.int .i64 a0_0, .slice A0_1 l0_1.length c0_1, .slice A0_2 l0_2.length c0_2], .slice A1 l1.length c1] w fun e w' => ∃ v0_ : Value, e = .returned (.tuple #[v0_, .int .i64 r2]) ∧ Kd.R (Kd.int .i64) 3 w' w.heap.size (fun _ => True) v0_ r1 ∧ Below w.heap.size w w' := by
 have HR2 := Aside0.mk hr0_2
 have HC2 := Aside0.mk hc0_2
 have HR1 := Aside0.mk hr1
 have HC1 := Aside0.mk hc1
 clear hr0_1 hc0_1 hr0_2 hc0_2 hr1 hc1
 obtain ⟨ar, har⟩ : ∃ ar, ar = aritV a0_0 := ⟨_, rfl⟩
 have hle := arit_le a0_0
 rw [← har] at hle
 obtain ⟨m, hm⟩ : ∃ m, m = (mx 0 ar).toNat := ⟨_, rfl⟩
 have hmx : (if 0 < ar then ar else 0) = (m : Int) := by rw [hm]; unfold mx; split <;> omega
 have hm2 : m < 17592186044416 := by rw [hm]; unfold mx; split <;> omega
 have HAr := Aside0.mk (show graph_Arity.f a0_0 = some ar by rw [har]; rfl)
 unfold infer_Node.f at h
 rw [← har, ← hm] at h
 have HM2 := Aside0.mk hm2
 have H := Aside0.mk h
 clear h har hle hm hm2
 have hu25 := Try.underlying25
 go_enter Try.func11, Try.ntmps11
 go_wp2_with fail
 have HI := Aside0.mk (show NdInv w w.heap.size a0_0 (.slice A0_1 l0_1.length c0_1) (.slice A0_2 l0_2.length c0_2) m none none (w.alloc (.cells #[.int .i64 a0_0, .slice A0_1 l0_1.length c0_1, .slice A0_2 l0_2.length c0_2] 25)).drew from ⟨below_drew1 (below_alloc (Below.refl _ _) _), blk_new _ _, (fun g e => by cases e), (fun g e => by cases e)⟩)
 refine start_ (n := 14) (S := fun w' => w'.cell? ⟨w.heap.size, 0, none⟩ = some (.int .i64 a0_0) ∧ w'.cell? ⟨w.heap.size, 2, none⟩ = some (.slice A0_2 l0_2.length c0_2)) (ds := [12]) #[false, false, false, false, false, false, false, false, false, false, false, false, false, false] (by kernel_rfl) rfl rfl HI.out.held (fun hHeld => ?_)
 generalize (w.alloc (.cells #[.int .i64 a0_0, .slice A0_1 l0_1.length c0_1, .slice A0_2 l0_2.length c0_2] 25)).drew = W at HI hHeld ⊢
 refine pure_ (i := 2) (N := some 12) (v := ?_) (a' := ?_) #[false, false, true, false, false, false, false, false, false, false, false, false, false, false] rfl rfl (by kernel_rfl) (fun _ _ _ h => h) (Or.inl ⟨by rfl, ?_⟩) ?_ ?_
 rotate_left
 ·intro w'
  go_simp
  with_reducible rfl
 rotate_left
 ·simp only [Act.put, sA_, sB_, sC_, i64_w, i32_w]
  rfl
 refine take_ (i := 3) (N := some 13) (v := ?_) (a' := ?_) #[false, false, true, true, false, false, false, false, false, false, false, false, false, false] rfl rfl (by kernel_rfl) (fun _ _ _ h => h) (Or.inl ⟨by rfl, ?_⟩) hHeld ?_ ?_
 rotate_left
 ·rintro w' ⟨s0, s1⟩
  go_simp
  with_reducible rfl
 rotate_left
 ·simp only [Act.put, sA_, sB_, sC_, i64_w, i32_w]
  rfl
 refine pure_ (i := 4) (N := some 14) (v := ?_) (a' := ?_) #[false, false, true, true, true, false, false, false, false, false, false, false, false, false] rfl rfl (by kernel_rfl) (fun _ _ _ h => h) (Or.inl ⟨by rfl, ?_⟩) ?_ ?_
 rotate_left
 ·intro w'
  go_simp
  with_reducible rfl
 rotate_left
 ·simp only [Act.put, sA_, sB_, sC_, i64_w, i32_w]
  rfl
 refine take_ (i := 5) (N := some 15) (v := ?_) (a' := ?_) #[false, false, true, true, true, true, false, false, false, false, false, false, false, false] rfl rfl (by kernel_rfl) (fun _ _ _ h => h) (Or.inl ⟨by rfl, ?_⟩) hHeld ?_ ?_
 rotate_left
 ·rintro w' ⟨s0, s1⟩
  go_simp
  with_reducible rfl
 rotate_left
 ·simp only [Act.put, sA_, sB_, sC_, i64_w, i32_w]
  rfl
 refine pure_ (i := 9) (N := some 19) (v := ?_) (a' := ?_) #[false, false, true, true, true, true, false, false, false, true, false, false, false, false] rfl rfl (by kernel_rfl) (fun _ _ _ h => h) (Or.inl ⟨by rfl, ?_⟩) ?_ ?_
 rotate_left
 ·intro w'
  go_simp
  with_reducible rfl
 rotate_left
 ·simp only [Act.put, sA_, sB_, sC_, i64_w, i32_w]
  rfl
 refine take_ (i := 10) (N := some 20) (v := ?_) (a' := ?_) #[false, false, true, true, true, true, false, false, false, true, true, false, false, false] rfl rfl (by kernel_rfl) (fun _ _ _ h => h) (Or.inl ⟨by rfl, ?_⟩) hHeld ?_ ?_
 rotate_left
 ·rintro w' ⟨s0, s1⟩
  go_simp
  with_reducible rfl
 rotate_left
 ·simp only [Act.put, sA_, sB_, sC_, i64_w, i32_w]
  rfl
 refine join_ (σ := Nat × Nat) 2 #[true, true, true, true, true, true, true, true, true, true, true, true, false, false] (fun s => [(10, .slice (some ⟨s.1, 0, none⟩) 1 1), (11, .agg #[.int .i64 3, .slice none 0 0, .slice (some ⟨s.1, 0, none⟩) 1 1]), (16, .int .i64 ar), (17, .int .i64 (m : Int)), (18, .slice (some ⟨s.2, 0, none⟩) m m), (21, .agg #[.int .i64 a0_0, .slice (some ⟨s.2, 0, none⟩) m m, .slice A0_2 l0_2.length c0_2])]) (fun s X => Aside0 (NdInv w w.heap.size a0_0 (.slice A0_1 l0_1.length c0_1) (.slice A0_2 l0_2.length c0_2) m (some s.1) (some s.2) X)) ?hcont ?hords
 case hords =>
  intro hfin
  refine two_ (i := 0) (j := 6) (Ni := some 10) (Nj := some 16) #[true, false, true, true, true, true, false, false, false, true, true, false, false, false] #[false, false, true, true, true, true, true, false, false, true, true, false, false, false] rfl rfl rfl rfl (by kernel_rfl) (by decide) (by decide) (fun K hK => ?_) (fun K hK => ?_)
  ·refine val_step (v := _) (w1 := _) (by rfl) rfl (nd_lit _ rfl) ?_
   replace HI := Aside0.mk HI.out.one
   generalize World.alloc _ (Obj.cells #[Value.int IntKind.i64 0] 3) = X at HI ⊢
   refine hK.out _ _ HI.out.held (fun hHeld => ?_)
   clear hK K
   refine norm_ (a' := ?_) ?_ ?_
   rotate_left
   ·show Act.put _ (some 10) _ = _
    simp only [Act.put, sA_, sB_, sC_, i64_w, i32_w]
    rfl
   refine pure_ (i := 1) (N := some 11) (v := ?_) (a' := ?_) #[true, true, true, true, true, true, false, false, false, true, true, false, false, false] rfl rfl (by kernel_rfl) (fun _ _ _ h => h) (Or.inl ⟨by rfl, ?_⟩) ?_ ?_
   rotate_left
   ·intro w'
    go_simp
    with_reducible rfl
   rotate_left
   ·simp only [Act.put, sA_, sB_, sC_, i64_w, i32_w]
    rfl
   refine one_ (i := 6) (N := some 16) #[true, true, true, true, true, true, true, false, false, true, true, false, false, false] rfl rfl (by kernel_rfl) (by decide) (fun K hK => ?_)
   refine goes_ Try.func20 (by kernel_rfl) rfl #[.int .i64 a0_0] (by rfl) rfl rfl (by (try simp only [List.map_toArray, List.map_cons, List.map_nil]); first | done | rfl) ?_
   refine (graph_Arity.calls a0_0 ar _ HAr.out).mono ?_
   rintro e X ⟨rfl, hb⟩
   replace HI := Aside0.mk (HI.out.grow hb)
   clear hb
   refine ⟨_, rfl, ?_⟩
   refine hK.out _ _ HI.out.held (fun hHeld => ?_)
   clear hK K
   refine norm_ (a' := ?_) ?_ ?_
   rotate_left
   ·show Act.put _ (some 16) _ = _
    simp only [Act.put, sA_, sB_, sC_, i64_w, i32_w]
    rfl
   refine pure_ (i := 7) (N := some 17) (v := ?_) (a' := ?_) #[true, true, true, true, true, true, true, true, false, true, true, false, false, false] rfl rfl (by kernel_rfl) (fun _ _ _ h => h) (Or.inl ⟨by rfl, ?_⟩) ?_ ?_
   rotate_left
   ·intro w'
    go_simp
    with_reducible rfl
   rotate_left
   ·simp only [Act.put, sA_, sB_, sC_, i64_w, i32_w]
    rfl
   refine one_ (i := 8) (N := some 18) #[true, true, true, true, true, true, true, true, true, true, true, false, false, false] rfl rfl (by kernel_rfl) (by decide) (fun K hK => ?_)
   refine val_step (v := _) (w1 := _) (by rfl) rfl (mk_run23 HM2.out _ rfl rfl) ?_
   replace HI := Aside0.mk HI.out.two
   generalize World.alloc _ (Obj.cells (encs (Value.int .i64) (List.replicate m 0)).toArray 3) = X at HI ⊢
   refine hK.out _ _ HI.out.held (fun hHeld => ?_)
   clear hK K
   refine norm_ (a' := ?_) ?_ ?_
   rotate_left
   ·show Act.put _ (some 18) _ = _
    simp only [Act.put, sA_, sB_, sC_, i64_w, i32_w]
    rfl
   refine pure_ (i := 11) (N := some 21) (v := ?_) (a' := ?_) #[true, true, true, true, true, true, true, true, true, true, true, true, false, false] rfl rfl (by kernel_rfl) (fun _ _ _ h => h) (Or.inl ⟨by rfl, ?_⟩) ?_ ?_
   rotate_left
   ·intro w'
    go_simp
    with_reducible rfl
   rotate_left
   ·simp only [Act.put, sA_, sB_, sC_, i64_w, i32_w]
    rfl
   have hfin2 := hfin (_, _) _ HI
   exact hfin2
  ·refine goes_ Try.func20 (by kernel_rfl) rfl #[.int .i64 a0_0] (by rfl) rfl rfl (by (try simp only [List.map_toArray, List.map_cons, List.map_nil]); first | done | rfl) ?_
   refine (graph_Arity.calls a0_0 ar _ HAr.out).mono ?_
   rintro e X ⟨rfl, hb⟩
   replace HI := Aside0.mk (HI.out.grow hb)
   clear hb
   refine ⟨_, rfl, ?_⟩
   refine hK.out _ _ HI.out.held (fun hHeld => ?_)
   clear hK K
   refine norm_ (a' := ?_) ?_ ?_
   rotate_left
   ·show Act.put _ (some 16) _ = _
    simp only [Act.put, sA_, sB_, sC_, i64_w, i32_w]
    rfl
   refine pure_ (i := 7) (N := some 17) (v := ?_) (a' := ?_) #[false, false, true, true, true, true, true, true, false, true, true, false, false, false] rfl rfl (by kernel_rfl) (fun _ _ _ h => h) (Or.inl ⟨by rfl, ?_⟩) ?_ ?_
   rotate_left
   ·intro w'
    go_simp
    with_reducible rfl
   rotate_left
   ·simp only [Act.put, sA_, sB_, sC_, i64_w, i32_w]
    rfl
   refine two_ (i := 0) (j := 8) (Ni := some 10) (Nj := some 18) #[true, false, true, true, true, true, true, true, false, true, true, false, false, false] #[false, false, true, true, true, true, true, true, true, true, true, false, false, false] rfl rfl rfl rfl (by kernel_rfl) (by decide) (by decide) (fun K hK => ?_) (fun K hK => ?_)
   ·refine val_step (v := _) (w1 := _) (by rfl) rfl (nd_lit _ rfl) ?_
    replace HI := Aside0.mk HI.out.one
    generalize World.alloc _ (Obj.cells #[Value.int IntKind.i64 0] 3) = X at HI ⊢
    refine hK.out _ _ HI.out.held (fun hHeld => ?_)
    clear hK K
    refine norm_ (a' := ?_) ?_ ?_
    rotate_left
    ·show Act.put _ (some 10) _ = _
     simp only [Act.put, sA_, sB_, sC_, i64_w, i32_w]
     rfl
    refine pure_ (i := 1) (N := some 11) (v := ?_) (a' := ?_) #[true, true, true, true, true, true, true, true, false, true, true, false, false, false] rfl rfl (by kernel_rfl) (fun _ _ _ h => h) (Or.inl ⟨by rfl, ?_⟩) ?_ ?_
    rotate_left
    ·intro w'
     go_simp
     with_reducible rfl
    rotate_left
    ·simp only [Act.put, sA_, sB_, sC_, i64_w, i32_w]
     rfl
    refine one_ (i := 8) (N := some 18) #[true, true, true, true, true, true, true, true, true, true, true, false, false, false] rfl rfl (by kernel_rfl) (by decide) (fun K hK => ?_)
    refine val_step (v := _) (w1 := _) (by rfl) rfl (mk_run23 HM2.out _ rfl rfl) ?_
    replace HI := Aside0.mk HI.out.two
    generalize World.alloc _ (Obj.cells (encs (Value.int .i64) (List.replicate m 0)).toArray 3) = X at HI ⊢
    refine hK.out _ _ HI.out.held (fun hHeld => ?_)
    clear hK K
    refine norm_ (a' := ?_) ?_ ?_
    rotate_left
    ·show Act.put _ (some 18) _ = _
     simp only [Act.put, sA_, sB_, sC_, i64_w, i32_w]
     rfl
    refine pure_ (i := 11) (N := some 21) (v := ?_) (a' := ?_) #[true, true, true, true, true, true, true, true, true, true, true, true, false, false] rfl rfl (by kernel_rfl) (fun _ _ _ h => h) (Or.inl ⟨by rfl, ?_⟩) ?_ ?_
    rotate_left
    ·intro w'
     go_simp
     with_reducible rfl
    rotate_left
    ·simp only [Act.put, sA_, sB_, sC_, i64_w, i32_w]
     rfl
    have hfin2 := hfin (_, _) _ HI
    exact hfin2
   ·refine val_step (v := _) (w1 := _) (by rfl) rfl (mk_run23 HM2.out _ rfl rfl) ?_
    replace HI := Aside0.mk HI.out.two
    generalize World.alloc _ (Obj.cells (encs (Value.int .i64) (List.replicate m 0)).toArray 3) = X at HI ⊢
    refine hK.out _ _ HI.out.held (fun hHeld => ?_)
    clear hK K
    refine norm_ (a' := ?_) ?_ ?_
    rotate_left
    ·show Act.put _ (some 18) _ = _
     simp only [Act.put, sA_, sB_, sC_, i64_w, i32_w]
     rfl
    refine pure_ (i := 11) (N := some 21) (v := ?_) (a' := ?_) #[false, false, true, true, true, true, true, true, true, true, true, true, false, false] rfl rfl (by kernel_rfl) (fun _ _ _ h => h) (Or.inl ⟨by rfl, ?_⟩) ?_ ?_
    rotate_left
    ·intro w'
     go_simp
     with_reducible rfl
    rotate_left
    ·simp only [Act.put, sA_, sB_, sC_, i64_w, i32_w]
     rfl
    refine one_ (i := 0) (N := some 10) #[true, false, true, true, true, true, true, true, true, true, true, true, false, false] rfl rfl (by kernel_rfl) (by decide) (fun K hK => ?_)
    refine val_step (v := _) (w1 := _) (by rfl) rfl (nd_lit _ rfl) ?_
    replace HI := Aside0.mk HI.out.one
    generalize World.alloc _ (Obj.cells #[Value.int IntKind.i64 0] 3) = X at HI ⊢
    refine hK.out _ _ HI.out.held (fun hHeld => ?_)
    clear hK K
    refine norm_ (a' := ?_) ?_ ?_
    rotate_left
    ·show Act.put _ (some 10) _ = _
     simp only [Act.put, sA_, sB_, sC_, i64_w, i32_w]
     rfl
    refine pure_ (i := 1) (N := some 11) (v := ?_) (a' := ?_) #[true, true, true, true, true, true, true, true, true, true, true, true, false, false] rfl rfl (by kernel_rfl) (fun _ _ _ h => h) (Or.inl ⟨by rfl, ?_⟩) ?_ ?_
    rotate_left
    ·intro w'
     go_simp
     with_reducible rfl
    rotate_left
    ·simp only [Act.put, sA_, sB_, sC_, i64_w, i32_w]
     rfl
    have hfin2 := hfin (_, _) _ HI
    exact hfin2
 case hcont =>
  rintro ⟨g10, g18⟩ X HI
  simp only at HI
  refine norm_ (a' := ?_) ?_ ?_
  rotate_left
  ·show putAll _ [(10, .slice (some ⟨g10, 0, none⟩) 1 1), (11, .agg #[.int .i64 3, .slice none 0 0, .slice (some ⟨g10, 0, none⟩) 1 1]), (16, .int .i64 ar), (17, .int .i64 (m : Int)), (18, .slice (some ⟨g18, 0, none⟩) m m), (21, .agg #[.int .i64 a0_0, .slice (some ⟨g18, 0, none⟩) m m, .slice A0_2 l0_2.length c0_2])] = _
   simp only [putAll, Act.put, sA_, sB_, sC_]
   rfl
  have hHeld := HI.out.held
  refine last_ (i := 12) (N := some 22) #[true, true, true, true, true, true, true, true, true, true, true, true, true, false] rfl rfl (by kernel_rfl) (by decide) (fun K hK => ?_)
  refine val_step (v := _) (w1 := _) (by rfl) rfl (nd_lit2 _ rfl (by rfl) (by rfl)) ?_
  refine hK.out _ _ ?_
  clear hK K
  have h10 := HI.out.b10 g10 rfl
  have h18 := HI.out.b18 g18 rfl
  obtain ⟨G, hG⟩ : ∃ G, G = X.heap.size := ⟨_, rfl⟩
  have HGb := Aside0.mk (show (X.alloc (.cells #[.int .i64 3, .slice none 0 0, .slice (some ⟨g10, 0, none⟩) 1 1, .int .i64 a0_0, .slice (some ⟨g18, 0, none⟩) m m, .slice A0_2 l0_2.length c0_2] 25)).heap[G]? = some (.cells #[.int .i64 3, .slice none 0 0, .slice (some ⟨g10, 0, none⟩) 1 1, .int .i64 a0_0, .slice (some ⟨g18, 0, none⟩) m m, .slice A0_2 l0_2.length c0_2] 25 (0, 0)) by rw [hG]; exact blk_new _ _)
  replace HI := Aside0.mk (HI.out.grow (below_alloc (Below.refl X.heap.size X) (.cells #[.int .i64 3, .slice none 0 0, .slice (some ⟨g10, 0, none⟩) 1 1, .int .i64 a0_0, .slice (some ⟨g18, 0, none⟩) m m, .slice A0_2 l0_2.length c0_2] 25)))
  rw [← hG]
  clear h10 h18 hHeld hG
  generalize X.alloc (.cells #[.int .i64 3, .slice none 0 0, .slice (some ⟨g10, 0, none⟩) 1 1, .int .i64 a0_0, .slice (some ⟨g18, 0, none⟩) m m, .slice A0_2 l0_2.length c0_2] 25) = Y at HI HGb ⊢
  refine norm_ (a' := ?_) ?_ ?_
  rotate_left
  ·show Act.put _ (some 22) _ = _
   simp only [Act.put, sA_, sB_, sC_, i64_w, i32_w]
   rfl
  refine pure_ (i := 13) (N := some 6) (v := ?_) (a' := ?_) #[true, true, true, true, true, true, true, true, true, true, true, true, true, true] rfl rfl (by kernel_rfl) (fun _ _ _ h => h) (Or.inl ⟨by rfl, ?_⟩) ?_ ?_
  rotate_left
  ·intro w'
   go_simp
   with_reducible rfl
  rotate_left
  ·simp only [Act.put, sA_, sB_, sC_, i64_w, i32_w]
   rfl
  refine done_ (by kernel_rfl) ?_
  have HG := Aside0.mk (show Kd.C k25 Y (some ⟨G, 0, none⟩) (ndG a0_0 m l0_2).length (ndG a0_0 m l0_2) from ndG_C HGb.out (HI.out.b10 g10 rfl) (HI.out.b18 g18 rfl) HM2.out (Kd.C_below HR2.out HI.out.bel) HC2.out)
  clear HGb
  have x0 : Y.cell? ⟨w.heap.size, 0, none⟩ = some (.int .i64 a0_0) := HI.out.held.1
  have h := H.out
  by_cases t1 : (l1.length : Int) ≠ ar
  ·rw [if_pos t1] at h
   have h2 := Option.some.inj h
   simp only [Prod.mk.injEq] at h2
   obtain ⟨rfl, rfl⟩ := h2
   have b1 : ((l1.length : Int) != ar) = true := bne_iff_ne.mpr t1
   clear h t1 H hmx
   go_wp2_with (go_at_call 20; (with_reducible refine (graph_Arity.calls a0_0 ar _ HAr.out).mono ?_); rintro e w' ⟨rfl, hb⟩; have hn := Aside0.mk (HI.out.grow hb); clear HI hb; have HI := hn; clear hn)
   go_ret2
   exact ⟨_, rfl, Kd.R_nil _ _ _ _ _, HI.out.bel⟩
  ·rw [if_neg t1] at h
   have b1 : ((l1.length : Int) != ar) = false := by simpa using t1
   clear t1 hmx
   by_cases t2 : gchk (ndG a0_0 m l0_2) = false
   ·rw [if_pos t2] at h
    have h2 := Option.some.inj h
    simp only [Prod.mk.injEq] at h2
    obtain ⟨rfl, rfl⟩ := h2
    have HGC := Aside0.mk (show graph_Check.f (ndG a0_0 m l0_2) = some false by rw [graph_Check.f, t2])
    clear h t2 H
    go_wp2_with (first | (go_at_call 20; (with_reducible refine (graph_Arity.calls a0_0 ar _ HAr.out).mono ?_); rintro e w' ⟨rfl, hb⟩; have hn := Aside0.mk (HI.out.grow hb); clear HI; have HI := hn; clear hn; have hn := Aside0.mk (Kd.C_below HG.out hb); clear HG hb; have HG := hn; clear hn) | (go_at_call 17; refine (graph_Check.calls (some ⟨G, 0, none⟩) 2 (ndG a0_0 m l0_2) false _ HG.out (Nat.le_refl _) HGC.out).mono ?_; rintro e w' ⟨rfl, hb⟩; have hn := Aside0.mk (HI.out.grow hb); clear HI hb; have HI := hn; clear hn))
    go_ret2
    exact ⟨_, rfl, Kd.R_nil _ _ _ _ _, HI.out.bel⟩
   ·rw [if_neg t2] at h
    have t2' : gchk (ndG a0_0 m l0_2) = true := by simpa using t2
    have HGC := Aside0.mk (show graph_Check.f (ndG a0_0 m l0_2) = some true by rw [graph_Check.f, t2'])
    have HGK := Aside0.mk (gchk_kind t2')
    clear t2 t2' H
    have HW := Aside0.mk (fun (W0 : World) (hW : Below w.heap.size w W0) => slices_ContainsFunc_int_int_22.by_ wrongS 21 #[] A1 c1 l1 W0 (Kd.C_below HR1.out hW) (A.enters_ Try.prog Try.func21 (by kernel_rfl) rfl) (fun W x A_ c_ _ _ hc hC => (infer_Node_1.calls 8 A_ c_ x (wrongS x) W hC hc (wrongS_f x)).mono (fun e w' h => ⟨h.1, h.2.below⟩)))
    by_cases t3 : l1.any wrongS = true
    ·rw [if_pos t3] at h
     have h2 := Option.some.inj h
     simp only [Prod.mk.injEq] at h2
     obtain ⟨rfl, rfl⟩ := h2
     rw [t3] at HW
     clear h t3
     go_wp2_with (first | (go_at_call 20; (with_reducible refine (graph_Arity.calls a0_0 ar _ HAr.out).mono ?_); rintro e w' ⟨rfl, hb⟩; have hn := Aside0.mk (HI.out.grow hb); clear HI; have HI := hn; clear hn; have hn := Aside0.mk (Kd.C_below HG.out hb); clear HG hb; have HG := hn; clear hn) | (go_at_call 17; refine (graph_Check.calls (some ⟨G, 0, none⟩) 2 (ndG a0_0 m l0_2) true _ HG.out (Nat.le_refl _) HGC.out).mono ?_; rintro e w' ⟨rfl, hb⟩; have hn := Aside0.mk (HI.out.grow hb); clear HI hb; have HI := hn; clear hn) | (go_at_call 22; refine (HW.out _ HI.out.bel).mono ?_; rintro e w' ⟨rfl, hb⟩; have hn := Aside0.mk (HI.out.grow hb); clear HI hb; have HI := hn; clear hn))
     go_ret2
     exact ⟨_, rfl, Kd.R_nil _ _ _ _ _, HI.out.bel⟩
    ·rw [if_neg t3] at h
     obtain ⟨⟨s, ok⟩, hrule, h⟩ := Option.bind_eq_some_iff.mp h
     have h2 := Option.some.inj h
     simp only at h2
     have t3' : l1.any wrongS = false := by simpa using t3
     rw [t3'] at HW
     have HRu := Aside0.mk hrule
     have H2 := Aside0.mk h2
     clear h t3 t3' hrule h2
     have hz48 : ∀ W : World, (zeroValue 48).run Try.prog W = .ok .nilFunc W := fun W => by kernel_rfl
     go_wp2_with (first | (go_at_call 20; (with_reducible refine (graph_Arity.calls a0_0 ar _ HAr.out).mono ?_); rintro e w' ⟨rfl, hb⟩; have hn := Aside0.mk (HI.out.grow hb); clear HI; have HI := hn; clear hn; have hn := Aside0.mk (Kd.C_below HG.out hb); clear HG hb; have HG := hn; clear hn) | (go_at_call 17; refine (graph_Check.calls (some ⟨G, 0, none⟩) 2 (ndG a0_0 m l0_2) true _ HG.out (Nat.le_refl _) HGC.out).mono ?_; rintro e w' ⟨rfl, hb⟩; have hn := Aside0.mk (HI.out.grow hb); clear HI hb; have HI := hn; clear hn) | (go_at_call 22; refine (HW.out _ HI.out.bel).mono ?_; rintro e w' ⟨rfl, hb⟩; have hn := Aside0.mk (HI.out.grow hb); clear HI hb; have HI := hn; clear hn))
     replace HI := Aside0.mk (HI.out.grow (below_drew1 (Below.refl _ _)))
     refine start_ (n := 13) (S := fun w' => w'.cell? ⟨w.heap.size, 0, none⟩ = some (.int .i64 a0_0) ∧ w'.cell? ⟨w.heap.size, 2, none⟩ = some (.slice A0_2 l0_2.length c0_2)) (ds := [7]) #[false, false, false, false, false, false, false, false, false, false, false, false, false] (by kernel_rfl) rfl rfl HI.out.held (fun hHeld => ?_)
     clear x0 HG HGC HW
     generalize World.drew _ = Z at HI hHeld ⊢
     refine pure_ (i := 1) (N := some 41) (v := ?_) (a' := ?_) #[false, true, false, false, false, false, false, false, false, false, false, false, false] rfl rfl (by kernel_rfl) (fun _ _ _ h => h) (Or.inl ⟨by rfl, ?_⟩) ?_ ?_
     rotate_left
     ·intro w'
      go_simp
      with_reducible rfl
     rotate_left
     ·simp only [Act.put, sA_, sB_, sC_, i64_w, i32_w]
      rfl
     refine take_ (i := 2) (N := some 42) (v := ?_) (a' := ?_) #[false, true, true, false, false, false, false, false, false, false, false, false, false] rfl rfl (by kernel_rfl) (fun _ _ _ h => h) (Or.inl ⟨by rfl, ?_⟩) hHeld ?_ ?_
     rotate_left
     ·rintro w' ⟨s0, s1⟩
      go_simp
      with_reducible rfl
     rotate_left
     ·simp only [Act.put, sA_, sB_, sC_, i64_w, i32_w]
      rfl
     refine pure_ (i := 4) (N := some 44) (v := ?_) (a' := ?_) #[false, true, true, false, true, false, false, false, false, false, false, false, false] rfl rfl (by kernel_rfl) (fun _ _ _ h => h) (Or.inl ⟨by rfl, ?_⟩) ?_ ?_
     rotate_left
     ·intro w'
      go_simp
      with_reducible rfl
     rotate_left
     ·simp only [Act.put, sA_, sB_, sC_, i64_w, i32_w]
      rfl
     refine pure_ (i := 5) (N := some 45) (v := ?_) (a' := ?_) #[false, true, true, false, true, true, false, false, false, false, false, false, false] rfl rfl (by kernel_rfl) (fun _ _ _ h => h) (Or.inl ⟨by rfl, ?_⟩) ?_ ?_
     rotate_left
     ·intro w'
      go_simp
      with_reducible rfl
     rotate_left
     ·simp only [Act.put, sA_, sB_, sC_, i64_w, i32_w]
      rfl
     refine take_ (i := 6) (N := some 46) (v := ?_) (a' := ?_) #[false, true, true, false, true, true, true, false, false, false, false, false, false] rfl rfl (by kernel_rfl) (fun _ _ _ h => h) (Or.inl ⟨by rfl, ?_⟩) hHeld ?_ ?_
     rotate_left
     ·rintro w' ⟨s0, s1⟩
      go_simp
      with_reducible rfl
     rotate_left
     ·simp only [Act.put, sA_, sB_, sC_, i64_w, i32_w]
      rfl
     refine one_ (i := 0) (N := some 40) #[true, true, true, false, true, true, true, false, false, false, false, false, false] rfl rfl (by kernel_rfl) (by decide) (fun K hK => ?_)
     refine goes_ Try.func23 (by kernel_rfl) rfl #[] (by rfl) rfl rfl (by (try simp only [List.map_toArray, List.map_cons, List.map_nil]); first | done | rfl) ?_
     refine (infer_rules.calls k _).mono ?_
     rintro e X ⟨bm, es, rfl, hIM, hb, hAll⟩
     replace HI := Aside0.mk (HI.out.grow hb)
     have HIM := Aside0.mk hIM
     obtain ⟨g, lb, hget, hRu⟩ := hAll a0_0 HGK.out
     have HGet := Aside0.mk hget
     have HRul := Aside0.mk hRu
     clear hb hIM hAll hget hRu
     refine ⟨_, rfl, ?_⟩
     refine hK.out _ _ HI.out.held (fun hHeld => ?_)
     clear hK K
     refine norm_ (a' := ?_) ?_ ?_
     rotate_left
     ·show Act.put _ (some 40) _ = _
      simp only [Act.put, sA_, sB_, sC_, i64_w, i32_w]
      rfl
     refine one_ (i := 3) (N := some 43) #[true, true, true, true, true, true, true, false, false, false, false, false, false] rfl rfl (by kernel_rfl) (by decide) (fun K hK => ?_)
     refine val_step (v := .func (.func g) #[] lb) (w1 := _) (by rfl) rfl (nd_look HIM.out HGet.out (hz48 _) rfl rfl rfl) ?_
     refine hK.out _ _ HI.out.held (fun hHeld => ?_)
     clear hK K
     refine norm_ (a' := ?_) ?_ ?_
     rotate_left
     ·show Act.put _ (some 43) _ = _
      simp only [Act.put, sA_, sB_, sC_, i64_w, i32_w]
      rfl
     refine last_ (i := 7) (N := some 47) #[true, true, true, true, true, true, true, true, false, false, false, false, false] rfl rfl (by kernel_rfl) (by decide) (fun K hK => ?_)
     refine goesV_ (lb := lb) #[.slice A1 l1.length c1, .slice A0_2 l0_2.length c0_2] (by rfl) rfl rfl (by rfl) (by (try simp only [List.map_toArray, List.map_cons, List.map_nil]); first | done | rfl) HRul.out.1 ?_
     refine (HRul.out.2 A1 c1 l1 A0_2 c0_2 l0_2 s ok _ (Below.refl _ _) (Kd.C_below HR1.out HI.out.bel) HC1.out (Kd.C_below HR2.out HI.out.bel) HC2.out HRu.out).mono ?_
     rintro e V ⟨v, rfl, hR, hb⟩
     have HRr := Aside0.mk (Kd.R_lower hR HI.out.bel.size)
     replace HI := Aside0.mk (HI.out.grow hb)
     clear hb hR
     refine ⟨_, rfl, ?_⟩
     refine hK.out _ _ ?_
     clear hK K
     refine norm_ (a' := ?_) ?_ ?_
     rotate_left
     ·show Act.put _ (some 47) _ = _
      simp only [Act.put, sA_, sB_, sC_, i64_w, i32_w]
      rfl
     refine pure_ (i := 8) (N := some 39) (v := ?_) (a' := ?_) #[true, true, true, true, true, true, true, true, true, false, false, false, false] rfl rfl (by kernel_rfl) (fun _ _ _ h => h) (Or.inl ⟨by rfl, ?_⟩) ?_ ?_
     rotate_left
     ·intro w'
      go_simp
      with_reducible rfl
     rotate_left
     ·simp only [Act.put, sA_, sB_, sC_, i64_w, i32_w]
      rfl
     refine pure_ (i := 9) (N := some 48) (v := ?_) (a' := ?_) #[true, true, true, true, true, true, true, true, true, true, false, false, false] rfl rfl (by kernel_rfl) (fun _ _ _ h => h) (Or.inl ⟨by rfl, ?_⟩) ?_ ?_
     rotate_left
     ·intro w'
      go_simp
      with_reducible rfl
     rotate_left
     ·simp only [Act.put, sA_, sB_, sC_, i64_w, i32_w]
      rfl
     refine pure_ (i := 10) (N := some 49) (v := ?_) (a' := ?_) #[true, true, true, true, true, true, true, true, true, true, true, false, false] rfl rfl (by kernel_rfl) (fun _ _ _ h => h) (Or.inl ⟨by rfl, ?_⟩) ?_ ?_
     rotate_left
     ·intro w'
      go_simp
      with_reducible rfl
     rotate_left
     ·simp only [Act.put, sA_, sB_, sC_, i64_w, i32_w]
      rfl
     refine pure_ (i := 11) (N := some 8) (v := ?_) (a' := ?_) #[true, true, true, true, true, true, true, true, true, true, true, true, false] rfl rfl (by kernel_rfl) (fun _ _ _ h => h) (Or.inl ⟨by rfl, ?_⟩) ?_ ?_
     rotate_left
     ·intro w'
      go_simp
      with_reducible rfl
     rotate_left
     ·simp only [Act.put, sA_, sB_, sC_, i64_w, i32_w]
      rfl
     refine pure_ (i := 12) (N := some 9) (v := ?_) (a' := ?_) #[true, true, true, true, true, true, true, true, true, true, true, true, true] rfl rfl (by kernel_rfl) (fun _ _ _ h => h) (Or.inl ⟨by rfl, ?_⟩) ?_ ?_
     rotate_left
     ·intro w'
      go_simp
      with_reducible rfl
     rotate_left
     ·simp only [Act.put, sA_, sB_, sC_, i64_w, i32_w]
      rfl
     refine done_ (by kernel_rfl) ?_
     have h2 := H2.out
     cases ok with
     | true =>
      simp only [if_true, Prod.mk.injEq] at h2
      obtain ⟨rfl, rfl⟩ := h2
      go_wp2_with fail
      go_ret2
      exact ⟨_, rfl, HRr.out, HI.out.bel⟩
     | false =>
      simp only [Bool.false_eq_true, if_false, Prod.mk.injEq] at h2
      obtain ⟨rfl, rfl⟩ := h2
      go_wp2_with fail
      go_ret2
      exact ⟨_, rfl, Kd.R_nil _ _ _ _ _, HI.out.bel⟩
theorem sidedF_mono {D D' : List (List Int) → Int → List Int → Option (List Int × Bool)} (h : ∀ l0 a l2, LeO (D l0 a l2) (D' l0 a l2)) (l0 : List (List Int)) (l1 : List Int) : LeO (sidedF D l0 l1) (sidedF D' l0 l1) := by
 unfold sidedF
 exact LeO.ite (LeO.ite (LeO.refl _) (LeO.ite (LeO.ite (LeO.refl _) (h _ _ _)) (LeO.refl _))) (LeO.refl _)
theorem infRule.mono (op : Int) (l0 : List (List Int)) (l1 : List Int) (k : Nat) : LeO (infRule k op l0 l1) (infRule (k + 1) op l0 l1) := by
 unfold infRule
 repeat' split
 all_goals first | exact LeO.refl _ | exact infer_both.mono _ _ _ | exact infer_rules_6.mono _ _ _ | exact infer_rules_4.mono _ _ _ | exact infer_rules_5.mono _ _ _ | exact sidedF_mono (fun _ _ _ => infer_behind.mono _ _ _ _) _ _
theorem infer_Node.mono : ∀ a0 a1 a2 a3 k, LeO (infer_Node.f k a0 a1 a2 a3) (infer_Node.f (k + 1) a0 a1 a2 a3) := by
 intro a0 a1 a2 a3 k
 unfold infer_Node.f
 exact LeO.ite (LeO.refl _) (LeO.ite (LeO.refl _) (LeO.ite (LeO.refl _) (LeO.bind (infRule.mono _ _ _ _) (fun _ => LeO.refl _))))


end Go.Proofs.Ytalmgghhpgfgoaa.A
