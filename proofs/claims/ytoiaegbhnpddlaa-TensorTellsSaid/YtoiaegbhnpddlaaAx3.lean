/- Lean functions that answer as the Go functions do, and the proofs that they do; no conditions. Written by this session's own driver: a scratch copy of the kit's print with the session's additions (wip/xprint). -/
import Derived.Test.YtoiaegbhnpddlaaAx0
import Derived.Test.YtoiaegbhnpddlaaAx1
import Derived.Test.YtoiaegbhnpddlaaAx2
namespace Go.Proofs.Ytoiaegbhnpddlaa.A
open Go.RowKit Go.Proofs.YtoiaegbhnpddlaaW.PrintWords Go.Proofs.YtoiaegbhnpddlaaW.PrintLast Go.Proofs.YtoiaegbhnpddlaaW.PrintMore
attribute [local go_sem] max2_int min2_int max_two min_two max_three min_three max_four min_four   -- for this text's walks alone
set_option linter.unusedVariables false
set_option linter.unusedSimpArgs false

/-! ### tensor_With: function 14 (given) -/
def tensor_With.f (k : Nat) (l0_0 l0_1 l1 : List Int) (a2 : Int) : Option (List Int × List Int × Int) :=
 (tensor_At.f k l0_0 l0_1 l1).bind fun o => if o.2 = 0 then ((shape_Place.f k l0_0 l1).bind fun q => if l0_0.length < 17592186044416 ∧ l0_1.length < 17592186044416 ∧ 0 ≤ q.1 ∧ q.1 < (l0_1.length : Int) then some (l0_0, l0_1.set q.1.toNat a2, 0) else none) else some ([], [], o.2)
theorem val_step {P : Program} {ops : Array Oper} {Q : Exit → Act → World → Prop} {oi : Oper} {a : Act} {w w1 : World} {K : Act → World → Prop} {v : Value} {N : Option Tmp} (hw : Region.wanted oi (yielded ops a.tmps) = true) (hN : oi.dst = N) (hrun : (execOp a.eval oi).run P w = .ok (.value v) w1)
  (h : K (a.put N v) w1) : if Region.wanted oi (yielded ops a.tmps) = true then Oper.wp P oi a w K Q else K (a.put N undef) w := by
 rw [if_pos hw]
 unfold Oper.wp
 rw [hrun]
 subst hN
 exact h
/-- What is known in the region that makes the copy: of what has been made. -/
structure WiInv (w0 : World) (tb rb B : Nat) (A0 : Option Addr) (c0 : Nat) (l0 : List Int) (A1 : Option Addr) (c1 : Nat) (l1 : List Int) (oc : Option (Option Addr × Nat)) (og ob : Option Nat) (W : World) : Prop where
 bel : Below w0.heap.size w0 W
 le : w0.heap.size ≤ B ∧ rb < B
 sz : B ≤ W.heap.size
 bt : W.heap[tb]? = some (.cells #[.slice A0 l0.length c0, .slice A1 l1.length c1] 24 (0, 0))
 br : W.heap[rb]? = some (.cells #[.slice none 0 0, .slice none 0 0] 24 (0, 0))
 cl : ∀ A2 c2, oc = some (A2, c2) → Kd.R (Kd.int .i64) 3 W B (fun k => ∀ g, og = some g → k ≠ g) (.slice A2 l0.length c2) l0
 gm : ∀ g, og = some g → W.heap[g]? = some (.cells (encs (Value.int .i64) (List.replicate l1.length 0)).toArray 3 (0, 0)) ∧ B ≤ g
 gb : ∀ g, ob = some g → W.heap[g]? = some (.cells #[.slice none 0 0, .slice none 0 0] 24 (0, 0)) ∧ B ≤ g
theorem WiInv.clone {w0 X X' : World} {tb rb B : Nat} {A0 : Option Addr} {c0 : Nat} {l0 : List Int} {A1 : Option Addr} {c1 : Nat} {l1 : List Int} {og ob : Option Nat} {A2 : Option Addr} {c2 : Nat} (h : WiInv w0 tb rb B A0 c0 l0 A1 c1 l1 none og ob X) (hR : Kd.R (Kd.int .i64) 3 X' X.heap.size (fun _ => True) (.slice A2 l0.length c2) l0) (hb : Below X.heap.size X X') :
  WiInv w0 tb rb B A0 c0 l0 A1 c1 l1 (some (A2, c2)) og ob X' := by
 refine ⟨below_step h.bel hb, h.le, Nat.le_trans h.sz hb.size, blk_below h.bt hb, blk_below h.br hb, ?_, fun g hg => ⟨blk_below (h.gm g hg).1 hb, (h.gm g hg).2⟩, fun g hg => ⟨blk_below (h.gb g hg).1 hb, (h.gb g hg).2⟩⟩
 intro A c e
 injection e with e
 injection e with e1 e2
 subst e1
 subst e2
 refine Kd.R_lower (Kd.R_mono (Kd.R_bound hR) (fun k hk g hg e => ?_)) h.sz
 have h1 := blk_lt (h.gm g hg).1
 have h2 := hk.2.1
 omega
theorem WiInv.make {w0 X : World} {tb rb B : Nat} {A0 : Option Addr} {c0 : Nat} {l0 : List Int} {A1 : Option Addr} {c1 : Nat} {l1 : List Int} {oc : Option (Option Addr × Nat)} {ob : Option Nat} (h : WiInv w0 tb rb B A0 c0 l0 A1 c1 l1 oc none ob X) :
  WiInv w0 tb rb B A0 c0 l0 A1 c1 l1 oc (some X.heap.size) ob (X.alloc (.cells (encs (Value.int .i64) (List.replicate l1.length 0)).toArray 3)) := by
 have hb : Below X.heap.size X (X.alloc (.cells (encs (Value.int .i64) (List.replicate l1.length 0)).toArray 3)) := below_alloc (Below.refl _ _) _
 refine ⟨below_step h.bel hb, h.le, Nat.le_trans h.sz hb.size, blk_below h.bt hb, blk_below h.br hb, ?_, ?_, fun g hg => ⟨blk_below (h.gb g hg).1 hb, (h.gb g hg).2⟩⟩
 ·intro A c e
  refine Kd.R_mono (Kd.R_below (Kd.R_bound (h.cl A c e)) hb) (fun k hk g hg e2 => ?_)
  injection hg with hg
  have h2 := hk.2.2.1
  omega
 ·intro g hg
  injection hg with hg
  subst hg
  exact ⟨blk_new _ _, h.sz⟩
theorem WiInv.box {w0 X : World} {tb rb B : Nat} {A0 : Option Addr} {c0 : Nat} {l0 : List Int} {A1 : Option Addr} {c1 : Nat} {l1 : List Int} {oc : Option (Option Addr × Nat)} {og : Option Nat} (h : WiInv w0 tb rb B A0 c0 l0 A1 c1 l1 oc og none X) :
  WiInv w0 tb rb B A0 c0 l0 A1 c1 l1 oc og (some X.heap.size) (X.alloc (.cells #[.slice none 0 0, .slice none 0 0] 24)) := by
 have hb : Below X.heap.size X (X.alloc (.cells #[.slice none 0 0, .slice none 0 0] 24)) := below_alloc (Below.refl _ _) _
 refine ⟨below_step h.bel hb, h.le, Nat.le_trans h.sz hb.size, blk_below h.bt hb, blk_below h.br hb, fun A c e => Kd.R_below (h.cl A c e) hb, fun g hg => ⟨blk_below (h.gm g hg).1 hb, (h.gm g hg).2⟩, ?_⟩
 intro g hg
 injection hg with hg
 subst hg
 exact ⟨blk_new _ _, h.sz⟩
theorem WiInv.held {w0 W : World} {tb rb B : Nat} {A0 : Option Addr} {c0 : Nat} {l0 : List Int} {A1 : Option Addr} {c1 : Nat} {l1 : List Int} {oc : Option (Option Addr × Nat)} {og ob : Option Nat} (h : WiInv w0 tb rb B A0 c0 l0 A1 c1 l1 oc og ob W) :
  W.cell? ⟨tb, 0, none⟩ = some (.slice A0 l0.length c0) ∧ W.cell? ⟨tb, 1, none⟩ = some (.slice A1 l1.length c1) := ⟨(blk_cell h.bt 0).trans rfl, (blk_cell h.bt 1).trans rfl⟩
/-- What is known behind it. -/
structure WiEnd (w0 : World) (tb rb B : Nat) (A0 : Option Addr) (c0 : Nat) (l0 : List Int) (A1 : Option Addr) (c1 : Nat) (l1 : List Int) (A2 : Option Addr) (c2 gm gb : Nat) (D : List Int) (W : World) : Prop where
 bel : Below w0.heap.size w0 W
 le : w0.heap.size ≤ B ∧ rb < B ∧ B ≤ gm
 bt : W.heap[tb]? = some (.cells #[.slice A0 l0.length c0, .slice A1 l1.length c1] 24 (0, 0))
 br : W.heap[rb]? = some (.cells #[.slice none 0 0, .slice none 0 0] 24 (0, 0))
 bo : W.heap[gb]? = some (.cells #[.slice A2 l0.length c2, .slice (some ⟨gm, 0, none⟩) l1.length l1.length] 24 (0, 0))
 cl : Kd.R (Kd.int .i64) 3 W B (fun k => k ≠ gm) (.slice A2 l0.length c2) l0
 gm : W.heap[gm]? = some (.cells (encs (Value.int .i64) D).toArray 3 (0, 0))
 len : D.length = l1.length
theorem two_types {W : World} {k g : Nat} {c1 c2 : Array Value} {t1 t2 : TypeId} (h1 : W.heap[k]? = some (.cells c1 t1 (0, 0))) (h2 : W.heap[g]? = some (.cells c2 t2 (0, 0))) (ht : t1 ≠ t2) : k ≠ g := by
 intro e
 subst e
 rw [h1] at h2
 injection h2 with h2
 injection h2 with _ h3 _
 exact ht h3
theorem WiInv.fill {w0 X : World} {tb rb B : Nat} {A0 : Option Addr} {c0 : Nat} {l0 : List Int} {A1 : Option Addr} {c1 : Nat} {l1 : List Int} {oc : Option (Option Addr × Nat)} {og ob : Option Nat} {A2 : Option Addr} {c2 gm gb : Nat} (h : WiInv w0 tb rb B A0 c0 l0 A1 c1 l1 oc og ob X) (hc : oc = some (A2, c2)) (hg : og = some gm) (hb : ob = some gb) (htb : tb < B) :
  WiEnd w0 tb rb B A0 c0 l0 A1 c1 l1 A2 c2 gm gb (List.replicate l1.length 0) ((X.setCell ⟨gb, 0, none⟩ (.slice A2 l0.length c2)).setCell ⟨gb, 1, none⟩ (.slice (some ⟨gm, 0, none⟩) l1.length l1.length)) := by
 obtain ⟨hgm, hgm2⟩ := h.gm gm hg
 obtain ⟨hgb, hgb2⟩ := h.gb gb hb
 have hne : gm ≠ gb := two_types hgm hgb (by decide)
 have hB : Below B X ((X.setCell ⟨gb, 0, none⟩ (.slice A2 l0.length c2)).setCell ⟨gb, 1, none⟩ (.slice (some ⟨gm, 0, none⟩) l1.length l1.length)) := ((Below.refl B X).setCell (p := ⟨gb, 0, none⟩) hgb2 _).setCell (p := ⟨gb, 1, none⟩) hgb2 _
 have hcl := h.cl A2 c2 hc
 refine ⟨h.bel.trans (hB.mono h.le.1), ⟨h.le.1, h.le.2, hgm2⟩, (hB.block tb htb).trans h.bt, (hB.block rb h.le.2).trans h.br, blk_put (cs := #[.slice A2 l0.length c2, .slice none 0 0]) (blk_put (cs := #[.slice none 0 0, .slice none 0 0]) hgb 0 _ rfl) 1 _ rfl, ?_, ?_, by simp⟩
 ·exact Kd.R_mono (Kd.R_far (p := ⟨gb, 1, none⟩) (Kd.R_far (p := ⟨gb, 0, none⟩) (Kd.R_types hcl hgb (by decide)) (fun _ hk => hk.2) (.slice A2 l0.length c2)) (fun _ hk => hk.2) (.slice (some ⟨gm, 0, none⟩) l1.length l1.length)) (fun k hk => hk.1 gm hg)
 ·exact ((Below.heap_setCell _ ⟨gb, 1, none⟩ _ gm hne).trans (Below.heap_setCell _ ⟨gb, 0, none⟩ _ gm hne)).trans hgm
theorem WiEnd.row {w0 W W' : World} {tb rb B : Nat} {A0 : Option Addr} {c0 : Nat} {l0 : List Int} {A1 : Option Addr} {c1 : Nat} {l1 : List Int} {A2 : Option Addr} {c2 gm gb : Nat} {D D' : List Int} (h : WiEnd w0 tb rb B A0 c0 l0 A1 c1 l1 A2 c2 gm gb D W) (hg : W.grownBy W' (some gm)) (hm : W'.heap[gm]? = some (.cells (encs (Value.int .i64) D').toArray 3 (0, 0))) (hl : D'.length = D.length) :
  WiEnd w0 tb rb B A0 c0 l0 A1 c1 l1 A2 c2 gm gb D' W' := by
 have other : ∀ {k : Nat} {cs' : Array Value}, W.heap[k]? = some (.cells cs' 24 (0, 0)) → W'.heap[k]? = some (.cells cs' 24 (0, 0)) := fun hk =>
  (hg.block _ (Array.getElem?_eq_some_iff.1 hk).1 (fun e => two_types hk h.gm (by decide) (Option.some.inj e))).trans hk
 refine ⟨h.bel.grown hg h.bel.size (fun k e => ?_), h.le, other h.bt, other h.br, other h.bo, ?_, hm, hl.trans h.len⟩
 ·injection e with e
  subst e
  exact Nat.le_trans h.le.1 h.le.2.2
 ·refine Kd.R_of_own (own_other (Kd.own_of_R h.cl) hg ?_) h.cl.1
  cases hv : (Value.slice A2 l0.length c2).ownBlock with
  | none => exact .inl rfl
  | some k => exact .inr (fun e => h.cl.1 k hv (Option.some.inj e))
theorem WiEnd.copied {w0 W : World} {tb rb B : Nat} {A0 : Option Addr} {c0 : Nat} {l0 : List Int} {A1 : Option Addr} {c1 : Nat} {l1 : List Int} {A2 : Option Addr} {c2 gm gb : Nat} {D : List Int} (h : WiEnd w0 tb rb B A0 c0 l0 A1 c1 l1 A2 c2 gm gb D W) (cells' : Array Value) (e : cells' = (encs (Value.int .i64) l1).toArray) :
  WiEnd w0 tb rb B A0 c0 l0 A1 c1 l1 A2 c2 gm gb l1 (W.setRow gm cells') := by
 subst e
 exact h.row ⟨rfl, rfl, rfl, by simp [World.setRow], fun k _ hk => setRow_other _ _ _ _ (fun e => hk (by rw [e]))⟩ (setRow_heap _ _ _ _ _ _ h.gm) h.len.symm
theorem WiEnd.put {w0 W : World} {tb rb B : Nat} {A0 : Option Addr} {c0 : Nat} {l0 : List Int} {A1 : Option Addr} {c1 : Nat} {l1 : List Int} {A2 : Option Addr} {c2 gm gb : Nat} {D : List Int} (h : WiEnd w0 tb rb B A0 c0 l0 A1 c1 l1 A2 c2 gm gb D W) (j : Nat) (x : Int) :
  WiEnd w0 tb rb B A0 c0 l0 A1 c1 l1 A2 c2 gm gb (D.set j x) (W.setCell ⟨gm, j, none⟩ (.int .i64 x)) := by
 refine h.row ⟨rfl, rfl, rfl, ((Below.refl 0 W).setCell (p := ⟨gm, j, none⟩) (Nat.zero_le _) _).size, fun k _ hk => Below.heap_setCell W ⟨gm, j, none⟩ _ k (fun e => hk (by rw [e]))⟩ ?_ (by simp)
 have := blk_put h.gm j (.int .i64 x) rfl
 rw [this]
 congr 2
 simp [encs]
theorem wi_cells (l : List Int) : ((encs (Value.int .i64) (List.replicate l.length 0)).toArray.toList.take 0 ++ (encs (Value.int .i64) l ++ (encs (Value.int .i64) (List.replicate l.length 0)).toArray.toList.drop (0 + (encs (Value.int .i64) l).length))).toArray = (encs (Value.int .i64) l).toArray := by
 simp [encs]
theorem wi_get {w0 W : World} {tb rb B : Nat} {A0 : Option Addr} {c0 : Nat} {l0 : List Int} {A1 : Option Addr} {c1 : Nat} {l1 : List Int} {A2 : Option Addr} {c2 gm gb : Nat} {D : List Int} (h : WiEnd w0 tb rb B A0 c0 l0 A1 c1 l1 A2 c2 gm gb D W) (j : Nat) (hj : j < l1.length) : W.cell? ⟨gm, j, none⟩ = some (.int .i64 (rd D (j : Int))) := by
 rw [blk_cell h.gm j]
 have := h.len
 simp [encs, rd, show j < D.length by omega]
theorem wi_src {W : World} {ad : Addr} {l : List Int} (h : Kd.C (Kd.int .i64) W (some ad) l.length l) (j : Nat) (v : Value) (hj : (encs (Value.int .i64) l)[j]? = some v) : W.cell? (ad.add j) = some v := by
 have hl : j < l.length := by have := (List.getElem?_eq_some_iff.1 hj).1; simpa [encs] using this
 obtain ⟨ad', e, hc⟩ := Kd.at_int h (j : Int) (by omega) (by omega)
 obtain rfl := Option.some.inj e
 rw [Int.toNat_natCast] at hc
 rw [hc]
 simp [encs, hl] at hj
 rw [← hj]
 simp [rd, hl]
theorem mk_run {o : Oper} {a : Act} {m : Nat} (hm : m < 17592186044416) (W : World) {x : Operand} (ho : o.op = .makeSlice 22 x x) (hx : a.eval x = .int .i64 (m : Int)) : (execOp a.eval o).run Try.prog W = .ok (.value (.slice (some ⟨W.heap.size, 0, none⟩) m m)) (W.alloc (.cells (encs (Value.int .i64) (List.replicate m 0)).toArray 3)) := by
 have hr := run_make22 m (by omega) W
 simp [execOp, ho, hx, hr]
theorem box_run {o : Oper} {a : Act} (W : World) (ho : o.op = .alloc 24) : (execOp a.eval o).run Try.prog W = .ok (.value (.pointer (some ⟨W.heap.size, 0, none⟩))) (W.alloc (.cells #[.slice none 0 0, .slice none 0 0] 24)) := by
 obtain ⟨dst, op, type, pos, after, guard⟩ := o
 simp only at ho
 subst ho
 go_simp
set_option maxHeartbeats 8000000 in
set_option maxRecDepth 100000 in
theorem tensor_With.calls (k : Nat) (A0_0 : Option Addr) (c0_0 : Nat) (l0_0 : List Int) (A0_1 : Option Addr) (c0_1 : Nat) (l0_1 : List Int) (A1 : Option Addr) (c1 : Nat) (l1 : List Int) (a2 : Int) (r1 r2 : List Int) (r3 : Int) (w : World) (hr0_0 : Kd.C (Kd.int .i64) w A0_0 l0_0.length l0_0) (hc0_0 : l0_0.length ≤ c0_0) (hr0_1 : Kd.C (Kd.int .i64) w A0_1 l0_1.length l0_1) (hc0_1 : l0_1.length ≤ c0_1) (hr1 : Kd.C (Kd.int .i64) w A1 l1.length l1) (hc1 : l1.length ≤ c1) (h : tensor_With.f k l0_0 l0_1 l1 a2 = some (r1, r2, r3)) :
  Calls Try.prog 14 #[.agg #[.slice A0_0 l0_0.length c0_0, .slice A0_1 l0_1.length c0_1], .slice A1 l1.length c1, .int .i64 a2] w fun e w' => ∃ v0_ v1_ : Value, e = .returned (.tuple #[.agg #[v0_, v1_], .int .i64 r3]) ∧ Kd.R (Kd.int .i64) 3 w' w.heap.size (fun k_ => some k_ ≠ (v1_ : Value).ownBlock) v0_ r1 ∧ Kd.R (Kd.int .i64) 3 w' w.heap.size (fun k_ => some k_ ≠ (v0_ : Value).ownBlock) v1_ r2 ∧ Below w.heap.size w w' := by
 unfold tensor_With.f at h
 have hu24 := Try.underlying24
 have HR0 := Aside0.mk hr0_0
 have HC0 := Aside0.mk hc0_0
 have HR1 := Aside0.mk hr0_1
 have HC1 := Aside0.mk hc0_1
 have HRs := Aside0.mk hr1
 have HCs := Aside0.mk hc1
 clear hr0_0 hc0_0 hr0_1 hc0_1 hr1 hc1
 obtain ⟨⟨n, e⟩, hat, h'⟩ := Option.bind_eq_some_iff.mp h
 clear h
 have HAt := Aside0.mk hat
 clear hat
 go_enter Try.func14, Try.ntmps14
 obtain ⟨o1, ho1⟩ : ∃ o1 : Obj, o1 = .cells #[.slice A0_0 l0_0.length c0_0, .slice A0_1 l0_1.length c0_1] 24 := ⟨_, rfl⟩
 obtain ⟨o2, ho2⟩ : ∃ o2 : Obj, o2 = .cells #[.slice none 0 0, .slice none 0 0] 24 := ⟨_, rfl⟩
 have BT := Aside0.mk (show ((w.alloc o1).alloc o2).heap[w.heap.size]? = some o1 from blk_alloc (blk_new w o1) o2)
 have BR := Aside0.mk (show ((w.alloc o1).alloc o2).heap[w.heap.size + 1]? = some o2 from by have := blk_new (w.alloc o1) o2; rwa [World.size_alloc] at this)
 have HB := Aside0.mk (show Below w.heap.size w ((w.alloc o1).alloc o2) from below_alloc (below_alloc (Below.refl _ _) _) _)
 rw [ho1, ho2] at HB
 rw [ho1, ho2] at BT
 rw [ho1, ho2] at BR
 clear ho1 ho2 o1 o2
 have H := Aside0.mk h'
 clear h'
 go_wp2_with fail
 refine (tensor_At.calls k A0_0 c0_0 l0_0 A0_1 c0_1 l0_1 A1 c1 l1 n e _ (Kd.C_below HR0.out HB.out) HC0.out (Kd.C_below HR1.out HB.out) HC1.out (Kd.C_below HRs.out HB.out) HCs.out HAt.out).mono ?_
 rintro e_ w3 ⟨rfl, hb3⟩
 replace BT := Aside0.mk (blk_below BT.out hb3)
 replace BR := Aside0.mk (blk_below BR.out hb3)
 replace HB := Aside0.mk (below_step HB.out hb3)
 clear hb3
 have h' := H.out
 clear H
 by_cases he : e = 0
 ·subst he
  simp only [if_true] at h'
  obtain ⟨⟨q, e2⟩, hp, h⟩ := Option.bind_eq_some_iff.mp h'
  clear h'
  simp only at h
  split at h
  case isFalse => cases h
  case isTrue hcs =>
  have h2 := Option.some.inj h
  simp only [Prod.mk.injEq] at h2
  obtain ⟨rfl, rfl, rfl⟩ := h2
  clear h
  have HP := Aside0.mk hp
  have HL := Aside0.mk (show l0_0.length < 17592186044416 ∧ l0_1.length < 17592186044416 from ⟨hcs.1, hcs.2.1⟩)
  have HQi := Aside0.mk hcs.2.2
  clear hp hcs
  have z0 : w3.cell? ⟨w.heap.size, 0, none⟩ = some (.slice A0_0 l0_0.length c0_0) := (blk_cell BT.out 0).trans rfl
  go_wp2_with fail
  refine (shape_Place.calls k A0_0 c0_0 l0_0 A1 c1 l1 q e2 _ (Kd.C_below HR0.out HB.out) HC0.out (Kd.C_below HRs.out HB.out) HCs.out HP.out).mono ?_
  rintro e_ w4 ⟨rfl, hd4⟩
  have hb4 := hd4.below
  replace BT := Aside0.mk (blk_below BT.out hb4)
  replace BR := Aside0.mk (blk_below BR.out hb4)
  replace HB := Aside0.mk (below_step HB.out hb4)
  clear hb4 hd4 z0
  have HI := Aside0.mk (show WiInv w w.heap.size (w.heap.size + 1) w4.heap.size A0_0 c0_0 l0_0 A0_1 c0_1 l0_1 none none none w4.drew from ⟨below_drew1 HB.out, ⟨HB.out.size, blk_lt BR.out⟩, Nat.le_refl _, BT.out, BR.out, fun _ _ e => by (cases e), fun _ e => by (cases e), fun _ e => by (cases e)⟩)
  clear BT BR HB
  go_wp2_with fail
  refine start_ (n := 10) (S := fun w' => w'.cell? ⟨w.heap.size, 0, none⟩ = some (.slice A0_0 l0_0.length c0_0) ∧ w'.cell? ⟨w.heap.size, 1, none⟩ = some (.slice A0_1 l0_1.length c0_1)) (ds := [9]) #[false, false, false, false, false, false, false, false, false, false] (by kernel_rfl) rfl rfl HI.out.held (fun hHeld => ?_)
  generalize w4.drew = W5 at HI hHeld ⊢
  refine pure_ (i := 0) (N := some 30) (v := ?_) (a' := ?_) #[true, false, false, false, false, false, false, false, false, false] rfl rfl (by kernel_rfl) (fun _ _ _ h => h) (Or.inl ⟨by rfl, ?_⟩) ?_ ?_
  rotate_left
  ·intro w'
   go_simp
   with_reducible rfl
  rotate_left
  ·simp only [Act.put, sA_, sB_, sC_, i64_w, i32_w]
   rfl
  refine pure_ (i := 3) (N := some 33) (v := ?_) (a' := ?_) #[true, false, false, true, false, false, false, false, false, false] rfl rfl (by kernel_rfl) (fun _ _ _ h => h) (Or.inl ⟨by rfl, ?_⟩) ?_ ?_
  rotate_left
  ·intro w'
   go_simp
   with_reducible rfl
  rotate_left
  ·simp only [Act.put, sA_, sB_, sC_, i64_w, i32_w]
   rfl
  refine take_ (i := 1) (N := some 31) (v := ?_) (a' := ?_) #[true, true, false, true, false, false, false, false, false, false] rfl rfl (by kernel_rfl) (fun _ _ _ h => h) (Or.inl ⟨by rfl, ?_⟩) hHeld ?_ ?_
  rotate_left
  ·rintro w' ⟨s0, s1⟩
   go_simp
   with_reducible rfl
  rotate_left
  ·simp only [Act.put, sA_, sB_, sC_, i64_w, i32_w]
   rfl
  refine take_ (i := 4) (N := some 34) (v := ?_) (a' := ?_) #[true, true, false, true, true, false, false, false, false, false] rfl rfl (by kernel_rfl) (fun _ _ _ h => h) (Or.inl ⟨by rfl, ?_⟩) hHeld ?_ ?_
  rotate_left
  ·rintro w' ⟨s0, s1⟩
   go_simp
   with_reducible rfl
  rotate_left
  ·simp only [Act.put, sA_, sB_, sC_, i64_w, i32_w]
   rfl
  refine pure_ (i := 5) (N := some 35) (v := ?_) (a' := ?_) #[true, true, false, true, true, true, false, false, false, false] rfl rfl (by kernel_rfl) (fun _ _ _ h => h) (Or.inl ⟨by rfl, ?_⟩) ?_ ?_
  rotate_left
  ·intro w'
   go_simp
   with_reducible rfl
  rotate_left
  ·simp only [Act.put, sA_, sB_, sC_, i64_w, i32_w]
   rfl
  refine join_ (σ := Option Addr × Nat × Nat × Nat) 1 #[true, true, true, true, true, true, true, true, true, false] (fun s => [(32, .slice s.1 l0_0.length s.2.1), (36, .slice (some ⟨s.2.2.1, 0, none⟩) l0_1.length l0_1.length), (37, .agg #[.slice s.1 l0_0.length s.2.1, .slice (some ⟨s.2.2.1, 0, none⟩) l0_1.length l0_1.length]), (12, .pointer (some ⟨s.2.2.2, 0, none⟩))]) (fun s X => Aside0 (WiInv w w.heap.size (w.heap.size + 1) w4.heap.size A0_0 c0_0 l0_0 A0_1 c0_1 l0_1 (some (s.1, s.2.1)) (some s.2.2.1) (some s.2.2.2) X)) ?hcont ?hords
  case hords =>
   intro hfin
   refine three_ (i := 2) (j := 6) (k := 8) (Ni := some 32) (Nj := some 36) (Nk := some 12) #[true, true, true, true, true, true, false, false, false, false] #[true, true, false, true, true, true, true, false, false, false] #[true, true, false, true, true, true, false, false, true, false] rfl rfl rfl rfl rfl rfl (by kernel_rfl) (by decide) (by decide) (by decide) (fun K hK => ?_) (fun K hK => ?_) (fun K hK => ?_)
   ·refine goes_ Try.func28 (by kernel_rfl) rfl #[.slice A0_0 l0_0.length c0_0] (by rfl) rfl rfl (by (try simp only [List.map_toArray, List.map_cons, List.map_nil]); first | done | rfl) ?_
    refine (slices_Clone_int_int.calls A0_0 c0_0 l0_0 l0_0 _ (Kd.C_below HR0.out HI.out.bel) HC0.out (clone_self HL.out.1)).mono ?_
    rintro e X ⟨v2, rfl, hR2, hb2⟩
    obtain ⟨A2, c2, rfl⟩ := Kd.R_slice hR2
    replace HI := Aside0.mk (HI.out.clone hR2 hb2)
    clear hR2 hb2
    refine ⟨_, rfl, ?_⟩
    refine hK.out _ _ (HI.out.held) (fun hHeld => ?_)
    clear hK K
    refine norm_ (a' := ?_) ?_ ?_
    rotate_left
    ·show Act.put _ (some 32) _ = _
     simp only [Act.put, sA_, sB_, sC_, i64_w, i32_w]
     rfl
    refine two_ (i := 6) (j := 8) (Ni := some 36) (Nj := some 12) #[true, true, true, true, true, true, true, false, false, false] #[true, true, true, true, true, true, false, false, true, false] rfl rfl rfl rfl (by kernel_rfl) (by decide) (by decide) (fun K hK => ?_) (fun K hK => ?_)
    ·refine val_step (v := _) (w1 := _) (by rfl) rfl (mk_run HL.out.2 _ rfl rfl) ?_
     replace HI := Aside0.mk HI.out.make
     generalize World.alloc _ (Obj.cells (encs (Value.int .i64) (List.replicate l0_1.length 0)).toArray 3) = X2 at HI ⊢
     refine hK.out _ _ (HI.out.held) (fun hHeld => ?_)
     clear hK K
     refine norm_ (a' := ?_) ?_ ?_
     rotate_left
     ·show Act.put _ (some 36) _ = _
      simp only [Act.put, sA_, sB_, sC_, i64_w, i32_w]
      rfl
     refine pure_ (i := 7) (N := some 37) (v := ?_) (a' := ?_) #[true, true, true, true, true, true, true, true, false, false] rfl rfl (by kernel_rfl) (fun _ _ _ h => h) (Or.inl ⟨by rfl, ?_⟩) ?_ ?_
     rotate_left
     ·intro w'
      go_simp
      with_reducible rfl
     rotate_left
     ·simp only [Act.put, sA_, sB_, sC_, i64_w, i32_w]
      rfl
     refine one_ (i := 8) (N := some 12) #[true, true, true, true, true, true, true, true, true, false] rfl rfl (by kernel_rfl) (by decide) (fun K hK => ?_)
     ·refine val_step (v := _) (w1 := _) (by rfl) rfl (box_run _ rfl) ?_
      replace HI := Aside0.mk HI.out.box
      generalize World.alloc _ (Obj.cells #[.slice none 0 0, .slice none 0 0] 24) = X3 at HI ⊢
      refine hK.out _ _ (HI.out.held) (fun hHeld => ?_)
      clear hK K
      refine norm_ (a' := ?_) ?_ ?_
      rotate_left
      ·show Act.put _ (some 12) _ = _
       simp only [Act.put, sA_, sB_, sC_, i64_w, i32_w]
       rfl
      have hfin2 := hfin (_, _, _, _) _ HI
      exact hfin2
    ·refine val_step (v := _) (w1 := _) (by rfl) rfl (box_run _ rfl) ?_
     replace HI := Aside0.mk HI.out.box
     generalize World.alloc _ (Obj.cells #[.slice none 0 0, .slice none 0 0] 24) = X3 at HI ⊢
     refine hK.out _ _ (HI.out.held) (fun hHeld => ?_)
     clear hK K
     refine norm_ (a' := ?_) ?_ ?_
     rotate_left
     ·show Act.put _ (some 12) _ = _
      simp only [Act.put, sA_, sB_, sC_, i64_w, i32_w]
      rfl
     refine one_ (i := 6) (N := some 36) #[true, true, true, true, true, true, true, false, true, false] rfl rfl (by kernel_rfl) (by decide) (fun K hK => ?_)
     ·refine val_step (v := _) (w1 := _) (by rfl) rfl (mk_run HL.out.2 _ rfl rfl) ?_
      replace HI := Aside0.mk HI.out.make
      generalize World.alloc _ (Obj.cells (encs (Value.int .i64) (List.replicate l0_1.length 0)).toArray 3) = X2 at HI ⊢
      refine hK.out _ _ (HI.out.held) (fun hHeld => ?_)
      clear hK K
      refine norm_ (a' := ?_) ?_ ?_
      rotate_left
      ·show Act.put _ (some 36) _ = _
       simp only [Act.put, sA_, sB_, sC_, i64_w, i32_w]
       rfl
      refine pure_ (i := 7) (N := some 37) (v := ?_) (a' := ?_) #[true, true, true, true, true, true, true, true, true, false] rfl rfl (by kernel_rfl) (fun _ _ _ h => h) (Or.inl ⟨by rfl, ?_⟩) ?_ ?_
      rotate_left
      ·intro w'
       go_simp
       with_reducible rfl
      rotate_left
      ·simp only [Act.put, sA_, sB_, sC_, i64_w, i32_w]
       rfl
      have hfin2 := hfin (_, _, _, _) _ HI
      exact hfin2
   ·refine val_step (v := _) (w1 := _) (by rfl) rfl (mk_run HL.out.2 _ rfl rfl) ?_
    replace HI := Aside0.mk HI.out.make
    generalize World.alloc _ (Obj.cells (encs (Value.int .i64) (List.replicate l0_1.length 0)).toArray 3) = X2 at HI ⊢
    refine hK.out _ _ (HI.out.held) (fun hHeld => ?_)
    clear hK K
    refine norm_ (a' := ?_) ?_ ?_
    rotate_left
    ·show Act.put _ (some 36) _ = _
     simp only [Act.put, sA_, sB_, sC_, i64_w, i32_w]
     rfl
    refine two_ (i := 2) (j := 8) (Ni := some 32) (Nj := some 12) #[true, true, true, true, true, true, true, false, false, false] #[true, true, false, true, true, true, true, false, true, false] rfl rfl rfl rfl (by kernel_rfl) (by decide) (by decide) (fun K hK => ?_) (fun K hK => ?_)
    ·refine goes_ Try.func28 (by kernel_rfl) rfl #[.slice A0_0 l0_0.length c0_0] (by rfl) rfl rfl (by (try simp only [List.map_toArray, List.map_cons, List.map_nil]); first | done | rfl) ?_
     refine (slices_Clone_int_int.calls A0_0 c0_0 l0_0 l0_0 _ (Kd.C_below HR0.out HI.out.bel) HC0.out (clone_self HL.out.1)).mono ?_
     rintro e X ⟨v2, rfl, hR2, hb2⟩
     obtain ⟨A2, c2, rfl⟩ := Kd.R_slice hR2
     replace HI := Aside0.mk (HI.out.clone hR2 hb2)
     clear hR2 hb2
     refine ⟨_, rfl, ?_⟩
     refine hK.out _ _ (HI.out.held) (fun hHeld => ?_)
     clear hK K
     refine norm_ (a' := ?_) ?_ ?_
     rotate_left
     ·show Act.put _ (some 32) _ = _
      simp only [Act.put, sA_, sB_, sC_, i64_w, i32_w]
      rfl
     refine pure_ (i := 7) (N := some 37) (v := ?_) (a' := ?_) #[true, true, true, true, true, true, true, true, false, false] rfl rfl (by kernel_rfl) (fun _ _ _ h => h) (Or.inl ⟨by rfl, ?_⟩) ?_ ?_
     rotate_left
     ·intro w'
      go_simp
      with_reducible rfl
     rotate_left
     ·simp only [Act.put, sA_, sB_, sC_, i64_w, i32_w]
      rfl
     refine one_ (i := 8) (N := some 12) #[true, true, true, true, true, true, true, true, true, false] rfl rfl (by kernel_rfl) (by decide) (fun K hK => ?_)
     ·refine val_step (v := _) (w1 := _) (by rfl) rfl (box_run _ rfl) ?_
      replace HI := Aside0.mk HI.out.box
      generalize World.alloc _ (Obj.cells #[.slice none 0 0, .slice none 0 0] 24) = X3 at HI ⊢
      refine hK.out _ _ (HI.out.held) (fun hHeld => ?_)
      clear hK K
      refine norm_ (a' := ?_) ?_ ?_
      rotate_left
      ·show Act.put _ (some 12) _ = _
       simp only [Act.put, sA_, sB_, sC_, i64_w, i32_w]
       rfl
      have hfin2 := hfin (_, _, _, _) _ HI
      exact hfin2
    ·refine val_step (v := _) (w1 := _) (by rfl) rfl (box_run _ rfl) ?_
     replace HI := Aside0.mk HI.out.box
     generalize World.alloc _ (Obj.cells #[.slice none 0 0, .slice none 0 0] 24) = X3 at HI ⊢
     refine hK.out _ _ (HI.out.held) (fun hHeld => ?_)
     clear hK K
     refine norm_ (a' := ?_) ?_ ?_
     rotate_left
     ·show Act.put _ (some 12) _ = _
      simp only [Act.put, sA_, sB_, sC_, i64_w, i32_w]
      rfl
     refine one_ (i := 2) (N := some 32) #[true, true, true, true, true, true, true, false, true, false] rfl rfl (by kernel_rfl) (by decide) (fun K hK => ?_)
     ·refine goes_ Try.func28 (by kernel_rfl) rfl #[.slice A0_0 l0_0.length c0_0] (by rfl) rfl rfl (by (try simp only [List.map_toArray, List.map_cons, List.map_nil]); first | done | rfl) ?_
      refine (slices_Clone_int_int.calls A0_0 c0_0 l0_0 l0_0 _ (Kd.C_below HR0.out HI.out.bel) HC0.out (clone_self HL.out.1)).mono ?_
      rintro e X ⟨v2, rfl, hR2, hb2⟩
      obtain ⟨A2, c2, rfl⟩ := Kd.R_slice hR2
      replace HI := Aside0.mk (HI.out.clone hR2 hb2)
      clear hR2 hb2
      refine ⟨_, rfl, ?_⟩
      refine hK.out _ _ (HI.out.held) (fun hHeld => ?_)
      clear hK K
      refine norm_ (a' := ?_) ?_ ?_
      rotate_left
      ·show Act.put _ (some 32) _ = _
       simp only [Act.put, sA_, sB_, sC_, i64_w, i32_w]
       rfl
      refine pure_ (i := 7) (N := some 37) (v := ?_) (a' := ?_) #[true, true, true, true, true, true, true, true, true, false] rfl rfl (by kernel_rfl) (fun _ _ _ h => h) (Or.inl ⟨by rfl, ?_⟩) ?_ ?_
      rotate_left
      ·intro w'
       go_simp
       with_reducible rfl
      rotate_left
      ·simp only [Act.put, sA_, sB_, sC_, i64_w, i32_w]
       rfl
      have hfin2 := hfin (_, _, _, _) _ HI
      exact hfin2
   ·refine val_step (v := _) (w1 := _) (by rfl) rfl (box_run _ rfl) ?_
    replace HI := Aside0.mk HI.out.box
    generalize World.alloc _ (Obj.cells #[.slice none 0 0, .slice none 0 0] 24) = X3 at HI ⊢
    refine hK.out _ _ (HI.out.held) (fun hHeld => ?_)
    clear hK K
    refine norm_ (a' := ?_) ?_ ?_
    rotate_left
    ·show Act.put _ (some 12) _ = _
     simp only [Act.put, sA_, sB_, sC_, i64_w, i32_w]
     rfl
    refine two_ (i := 2) (j := 6) (Ni := some 32) (Nj := some 36) #[true, true, true, true, true, true, false, false, true, false] #[true, true, false, true, true, true, true, false, true, false] rfl rfl rfl rfl (by kernel_rfl) (by decide) (by decide) (fun K hK => ?_) (fun K hK => ?_)
    ·refine goes_ Try.func28 (by kernel_rfl) rfl #[.slice A0_0 l0_0.length c0_0] (by rfl) rfl rfl (by (try simp only [List.map_toArray, List.map_cons, List.map_nil]); first | done | rfl) ?_
     refine (slices_Clone_int_int.calls A0_0 c0_0 l0_0 l0_0 _ (Kd.C_below HR0.out HI.out.bel) HC0.out (clone_self HL.out.1)).mono ?_
     rintro e X ⟨v2, rfl, hR2, hb2⟩
     obtain ⟨A2, c2, rfl⟩ := Kd.R_slice hR2
     replace HI := Aside0.mk (HI.out.clone hR2 hb2)
     clear hR2 hb2
     refine ⟨_, rfl, ?_⟩
     refine hK.out _ _ (HI.out.held) (fun hHeld => ?_)
     clear hK K
     refine norm_ (a' := ?_) ?_ ?_
     rotate_left
     ·show Act.put _ (some 32) _ = _
      simp only [Act.put, sA_, sB_, sC_, i64_w, i32_w]
      rfl
     refine one_ (i := 6) (N := some 36) #[true, true, true, true, true, true, true, false, true, false] rfl rfl (by kernel_rfl) (by decide) (fun K hK => ?_)
     ·refine val_step (v := _) (w1 := _) (by rfl) rfl (mk_run HL.out.2 _ rfl rfl) ?_
      replace HI := Aside0.mk HI.out.make
      generalize World.alloc _ (Obj.cells (encs (Value.int .i64) (List.replicate l0_1.length 0)).toArray 3) = X2 at HI ⊢
      refine hK.out _ _ (HI.out.held) (fun hHeld => ?_)
      clear hK K
      refine norm_ (a' := ?_) ?_ ?_
      rotate_left
      ·show Act.put _ (some 36) _ = _
       simp only [Act.put, sA_, sB_, sC_, i64_w, i32_w]
       rfl
      refine pure_ (i := 7) (N := some 37) (v := ?_) (a' := ?_) #[true, true, true, true, true, true, true, true, true, false] rfl rfl (by kernel_rfl) (fun _ _ _ h => h) (Or.inl ⟨by rfl, ?_⟩) ?_ ?_
      rotate_left
      ·intro w'
       go_simp
       with_reducible rfl
      rotate_left
      ·simp only [Act.put, sA_, sB_, sC_, i64_w, i32_w]
       rfl
      have hfin2 := hfin (_, _, _, _) _ HI
      exact hfin2
    ·refine val_step (v := _) (w1 := _) (by rfl) rfl (mk_run HL.out.2 _ rfl rfl) ?_
     replace HI := Aside0.mk HI.out.make
     generalize World.alloc _ (Obj.cells (encs (Value.int .i64) (List.replicate l0_1.length 0)).toArray 3) = X2 at HI ⊢
     refine hK.out _ _ (HI.out.held) (fun hHeld => ?_)
     clear hK K
     refine norm_ (a' := ?_) ?_ ?_
     rotate_left
     ·show Act.put _ (some 36) _ = _
      simp only [Act.put, sA_, sB_, sC_, i64_w, i32_w]
      rfl
     refine one_ (i := 2) (N := some 32) #[true, true, true, true, true, true, true, false, true, false] rfl rfl (by kernel_rfl) (by decide) (fun K hK => ?_)
     ·refine goes_ Try.func28 (by kernel_rfl) rfl #[.slice A0_0 l0_0.length c0_0] (by rfl) rfl rfl (by (try simp only [List.map_toArray, List.map_cons, List.map_nil]); first | done | rfl) ?_
      refine (slices_Clone_int_int.calls A0_0 c0_0 l0_0 l0_0 _ (Kd.C_below HR0.out HI.out.bel) HC0.out (clone_self HL.out.1)).mono ?_
      rintro e X ⟨v2, rfl, hR2, hb2⟩
      obtain ⟨A2, c2, rfl⟩ := Kd.R_slice hR2
      replace HI := Aside0.mk (HI.out.clone hR2 hb2)
      clear hR2 hb2
      refine ⟨_, rfl, ?_⟩
      refine hK.out _ _ (HI.out.held) (fun hHeld => ?_)
      clear hK K
      refine norm_ (a' := ?_) ?_ ?_
      rotate_left
      ·show Act.put _ (some 32) _ = _
       simp only [Act.put, sA_, sB_, sC_, i64_w, i32_w]
       rfl
      refine pure_ (i := 7) (N := some 37) (v := ?_) (a' := ?_) #[true, true, true, true, true, true, true, true, true, false] rfl rfl (by kernel_rfl) (fun _ _ _ h => h) (Or.inl ⟨by rfl, ?_⟩) ?_ ?_
      rotate_left
      ·intro w'
       go_simp
       with_reducible rfl
      rotate_left
      ·simp only [Act.put, sA_, sB_, sC_, i64_w, i32_w]
       rfl
      have hfin2 := hfin (_, _, _, _) _ HI
      exact hfin2
  case hcont =>
   rintro ⟨A2, c2, gm, gb⟩ X HI
   simp only at HI
   refine norm_ (a' := ?_) ?_ ?_
   rotate_left
   ·show putAll _ [(32, .slice A2 l0_0.length c2), (36, .slice (some ⟨gm, 0, none⟩) l0_1.length l0_1.length), (37, .agg #[.slice A2 l0_0.length c2, .slice (some ⟨gm, 0, none⟩) l0_1.length l0_1.length]), (12, .pointer (some ⟨gb, 0, none⟩))] = _
    simp only [putAll, Act.put, sA_, sB_, sC_]
    rfl
   have hHeld := HI.out.held
   have x1 : X.cell? ⟨gb, 0, none⟩ = some (.slice none 0 0) := (blk_cell (HI.out.gb gb rfl).1 0).trans rfl
   have x2 : X.cell? ⟨gb, 1, none⟩ = some (.slice none 0 0) := (blk_cell (HI.out.gb gb rfl).1 1).trans rfl
   have y1 := blk_frozen (HI.out.gb gb rfl).1 0
   have y2 := blk_frozen (HI.out.gb gb rfl).1 1
   refine last_ (i := 9) (N := none) #[true, true, true, true, true, true, true, true, true, true] rfl rfl (by kernel_rfl) (by decide) (fun K hK => ?_)
   refine skip_ (w1 := ?_) (by rfl) rfl ?_ ?_
   rotate_left
   ·go_simp
    rfl
   refine hK.out _ _ ?_
   clear hK K
   refine done_ (by kernel_rfl) ?_
   have hgb := (HI.out.gb gb rfl)
   have hgm := (HI.out.gm gm rfl)
   have HE := Aside0.mk (HI.out.fill (A2 := A2) (c2 := c2) (gm := gm) (gb := gb) rfl rfl rfl (by have := HI.out.le; omega))
   generalize (X.setCell ⟨gb, 0, none⟩ (.slice A2 l0_0.length c2)).setCell ⟨gb, 1, none⟩ (.slice (some ⟨gm, 0, none⟩) l0_1.length l0_1.length) = Y at HE ⊢
   clear x1 x2 y1 y2 hHeld hgb hgm HI
   have x1 : Y.cell? ⟨gb, 1, none⟩ = some (.slice (some ⟨gm, 0, none⟩) l0_1.length l0_1.length) := (blk_cell HE.out.bo 1).trans rfl
   obtain ⟨ad, hA, _⟩ := Kd.at_int (Kd.C_below HR1.out HE.out.bel) q HQi.out.1 HQi.out.2
   have x2 : Y.cell? ⟨w.heap.size, 1, none⟩ = some (.slice A0_1 l0_1.length c0_1) := (blk_cell HE.out.bt 1).trans rfl
   rw [hA] at x2
   have HSrc := Aside0.mk (show ∀ (j : Nat) (v : Value), (encs (Value.int .i64) l0_1)[j]? = some v → Y.cell? (ad.add j) = some v from wi_src (hA ▸ Kd.C_below HR1.out HE.out.bel))
   clear hA
   obtain ⟨j, hj⟩ : ∃ j : Nat, q = (j : Int) := ⟨q.toNat, by have := HQi.out.1; omega⟩
   subst hj
   have HJ := Aside0.mk (show j < l0_1.length by have := HQi.out.2; omega)
   have q1 : (0 ≤ (j : Int)) = True := eq_true (by omega)
   have q2 : ((j : Int) < (l0_1.length : Int)) = True := eq_true HQi.out.2
   have q3 : (j < l0_1.length) = True := eq_true HJ.out
   go_upto_region 8 with (((with_reducible refine gate_builtin (b := .copy) (xs := #[.tmp 39, .tmp 41]) rfl ?_); go_loud (refine wpList_copy_own rfl (.tmp 39) (.tmp 41) 22 22 rfl 3 Try.underlying22 size3 gm 0 l0_1.length l0_1.length ad l0_1.length c0_1 rfl rfl (encs (Value.int .i64) (List.replicate l0_1.length 0)).toArray 3 HE.out.gm (encs (Value.int .i64) l0_1) (by simp [encs]) HSrc.out (by simp [encs]) (fun v_ hv_ => encs_one hv_) ?_); have HE2 := Aside0.mk (HE.out.copied ((encs (Value.int .i64) (List.replicate l0_1.length 0)).toArray.toList.take 0 ++ (encs (Value.int .i64) l0_1 ++ (encs (Value.int .i64) (List.replicate l0_1.length 0)).toArray.toList.drop (0 + (encs (Value.int .i64) l0_1).length))).toArray (wi_cells l0_1)); generalize World.setRow Y gm _ = Y2 at HE2 ⊢; have x3 : Y2.cell? ⟨gb, 1, none⟩ = some (.slice (some ⟨gm, 0, none⟩) l0_1.length l0_1.length) := (blk_cell HE2.out.bo 1).trans rfl; have x4 := wi_get HE2.out j HJ.out; have y4 := blk_frozen HE2.out.gm j))
   have HE3 := Aside0.mk (HE2.out.put j a2)
   generalize Y2.setCell ⟨gm, j, none⟩ (.int .i64 a2) = Y3 at HE3 ⊢
   clear x1 x2 x3 x4 y4 HE HE2
   have x1 : Y3.cell? ⟨gb, 0, none⟩ = some (.slice A2 l0_0.length c2) := (blk_cell HE3.out.bo 0).trans rfl
   have x2 : Y3.cell? ⟨gb, 1, none⟩ = some (.slice (some ⟨gm, 0, none⟩) l0_1.length l0_1.length) := (blk_cell HE3.out.bo 1).trans rfl
   have y1 := blk_frozen HE3.out.br 0
   have y2 := blk_frozen HE3.out.br 1
   have z1 : Y3.cell? ⟨w.heap.size + 1, 0, none⟩ = some (.slice none 0 0) := (blk_cell HE3.out.br 0).trans rfl
   have z2 : Y3.cell? ⟨w.heap.size + 1, 1, none⟩ = some (.slice none 0 0) := (blk_cell HE3.out.br 1).trans rfl
   go_wp2_with fail
   refine bodyPost_ret (results_ct rfl _ _ (w.heap.size + 1) 24 #[.slice A2 l0_0.length c2, .slice (some ⟨gm, 0, none⟩) l0_1.length l0_1.length] (0, 0) _ rfl (blk_put (cs := #[.slice A2 l0_0.length c2, .slice none 0 0]) (blk_put (cs := #[.slice none 0 0, .slice none 0 0]) HE3.out.br 0 _ rfl) 1 _ rfl) Try.underlying24 rfl (by kernel_rfl)) rfl ?_
   have hrb := HE3.out.le.2.1
   have hge : w4.heap.size ≤ gm := HE3.out.le.2.2
   have hlen : (l0_1.set j a2).length = l0_1.length := by simp
   have hda := row_of_block (B := w4.heap.size) (ok := fun k_ => some k_ ≠ (Value.slice A2 l0_0.length c2).ownBlock) HE3.out.gm hge (fun e => HE3.out.cl.1 gm e.symm rfl) (by rw [hlen]; have := HL.out.2; simp [maxLen]; omega)
   rw [hlen] at hda
   refine ⟨_, _, rfl, Kd.R_lower (Kd.R_mono (tn_off (tn_off HE3.out.cl hrb 0 _) hrb 1 _) (fun k_ hk e => hk (by simpa [Value.ownBlock] using e))) HE3.out.le.1, ?_, (HE3.out.bel.setCell (p := ⟨w.heap.size + 1, 0, none⟩) (Nat.le_succ _) _).setCell (p := ⟨w.heap.size + 1, 1, none⟩) (Nat.le_succ _) _⟩
   exact Kd.R_lower (tn_off (tn_off hda hrb 0 _) hrb 1 _) HE3.out.le.1
 ·rw [if_neg he] at h'
  have h2 := Option.some.inj h'
  simp only [Prod.mk.injEq] at h2
  obtain ⟨rfl, rfl, rfl⟩ := h2
  clear h'
  have t1 : (e != 0) = true := bne_iff_ne.mpr he
  have y1 := blk_frozen BR.out 0
  have y2 := blk_frozen BR.out 1
  have z1 : w3.cell? ⟨w.heap.size + 1, 0, none⟩ = some (.slice none 0 0) := (blk_cell BR.out 0).trans rfl
  have z2 : w3.cell? ⟨w.heap.size + 1, 1, none⟩ = some (.slice none 0 0) := (blk_cell BR.out 1).trans rfl
  clear he
  go_wp2_with fail
  refine bodyPost_ret (results_ct rfl _ _ (w.heap.size + 1) 24 #[.slice none 0 0, .slice none 0 0] (0, 0) _ rfl (blk_put (cs := #[.slice none 0 0, .slice none 0 0]) (blk_put (cs := #[.slice none 0 0, .slice none 0 0]) BR.out 0 _ rfl) 1 _ rfl) Try.underlying24 rfl (by kernel_rfl)) rfl ?_
  exact ⟨_, _, rfl, Kd.R_nil _ _ _ _ _, Kd.R_nil _ _ _ _ _, (HB.out.setCell (p := ⟨w.heap.size + 1, 0, none⟩) (Nat.le_succ _) _).setCell (p := ⟨w.heap.size + 1, 1, none⟩) (Nat.le_succ _) _⟩
theorem tensor_With.mono : ∀ a0 a1 a2 a3 k, LeO (tensor_With.f k a0 a1 a2 a3) (tensor_With.f (k + 1) a0 a1 a2 a3) := by
 intro a0 a1 a2 a3 k
 unfold tensor_With.f
 repeat' first
  | (with_reducible exact tensor_At.mono _ _ _ _)
  | (with_reducible exact shape_Place.mono _ _ _)
  | (with_reducible exact LeO.refl _)
  | (with_reducible exact LeO.none _)
  | (with_reducible refine LeO.ite ?_ ?_)
  | (with_reducible refine LeO.bind ?_ (fun _ => ?_))


/-! ### shape_side: function 48 -/
def shape_side.f (l0 : List Int) (a1 : Int) : Option (Int) := if a1 ≥ (l0.length : Int) then (some 1) else (if 0 ≤ (wrap64 ((wrap64 ((l0.length : Int) - 1)) - a1)) then (if (wrap64 ((wrap64 ((l0.length : Int) - 1)) - a1)) < (l0.length : Int) then (some (rd l0 (wrap64 ((wrap64 ((l0.length : Int) - 1)) - a1)))) else (none)) else (none))
set_option maxHeartbeats 8000000 in
set_option maxRecDepth 100000 in
theorem shape_side.calls (A0 : Option Addr) (c0 : Nat) (l0 : List Int) (a1 : Int) (r : Int) (w : World) (hr0 : Kd.C (Kd.int .i64) w A0 l0.length l0) (hc0 : l0.length ≤ c0) (h : shape_side.f l0 a1 = some r) :
    Calls Try.prog 48 #[.slice A0 l0.length c0, .int .i64 a1] w fun e w' => e = .returned (.int .i64 r) ∧ Drawn0 w w' := by
  have HR0 := Aside0.mk hr0
  have HC0 := Aside0.mk hc0
  clear hr0 hc0
  have H : (if a1 ≥ (l0.length : Int) then (some 1) else (if 0 ≤ (wrap64 ((wrap64 ((l0.length : Int) - 1)) - a1)) then (if (wrap64 ((wrap64 ((l0.length : Int) - 1)) - a1)) < (l0.length : Int) then (some (rd l0 (wrap64 ((wrap64 ((l0.length : Int) - 1)) - a1)))) else (none)) else (none))) = some r := h
  clear h
  by_cases c3 : a1 ≥ (l0.length : Int)
  · rw [if_pos c3] at H
    have c3b0 : decide ((l0.length : Int) ≤ a1) = true := decide_eq_true c3
    clear c3
    obtain rfl := Option.some.inj H
    go_enter Try.func48, Try.ntmps48
    go_wp2
    go_ret
    exact ⟨by first | rfl | (simp; done) | (simp [*]; done), by repeat (first | exact Drawn0.refl _ | apply Drawn0.step)⟩
  · rw [if_neg c3] at H
    have c3b0 : decide ((l0.length : Int) ≤ a1) = false := decide_eq_false c3
    clear c3
    obtain ⟨ji4, hji4⟩ : ∃ j_ : Int, (wrap64 ((wrap64 ((l0.length : Int) - 1)) - a1)) = j_ := ⟨_, rfl⟩
    replace H : (if 0 ≤ (ji4) then (if (ji4) < (l0.length : Int) then (some (rd l0 (ji4))) else (none)) else (none)) = some r := by first | (rw [hji4] at H; exact H) | (simp only [hji4] at H ⊢; exact H)
    have hji4w : (IntKind.i64.wrap ((wrap64 ((l0.length : Int) - 1)) - a1)) = ji4 := (i64_w _).trans hji4
    by_cases c5 : 0 ≤ (ji4)
    · rw [if_pos c5] at H
      have c5b0 : decide (0 ≤ (ji4)) = true := decide_eq_true c5
      clear c5
      by_cases c6 : (ji4) < (l0.length : Int)
      · rw [if_pos c6] at H
        have c6b0 : decide ((ji4) < (l0.length : Int)) = true := decide_eq_true c6
        clear c6
        obtain rfl := Option.some.inj H
        have p119 : 0 ≤ ((ji4) : Int) := of_decide_eq_true (by first | (with_reducible assumption) | assumption)
        have q119 : (ji4) < (l0.length : Int) := of_decide_eq_true (by first | (with_reducible assumption) | assumption)
        obtain ⟨ad119, e119, hx119_0⟩ := Kd.at_int HR0.out (ji4) p119 q119
        cases e119
        replace p119 := eq_true p119
        replace q119 := eq_true q119
        go_enter Try.func48, Try.ntmps48
        go_wp2
        go_ret
        exact ⟨by first | rfl | (simp; done) | (simp only [← hji4] <;> (first | rfl | simp)) | (simp [*]; done), by repeat (first | exact Drawn0.refl _ | apply Drawn0.step)⟩
      · rw [if_neg c6] at H
        exact absurd H (by simp)
    · rw [if_neg c5] at H
      exact absurd H (by simp)

end Go.Proofs.Ytoiaegbhnpddlaa.A
