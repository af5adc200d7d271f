/- Lean functions that answer as the Go functions do, and the proofs that they do; no conditions. Written by this session's own driver: a scratch copy of the kit's print with the session's additions (wip/xprint). -/
import Derived.Test.YtoiaegbhnpddlaaAx0
import Derived.Test.YtoiaegbhnpddlaaAx1
import Derived.Test.YtoiaegbhnpddlaaAx2
import Derived.Test.YtoiaegbhnpddlaaAx4
import Derived.Test.YtoiaegbhnpddlaaAx5
import Derived.Test.YtoiaegbhnpddlaaAx6
namespace Go.Proofs.Ytoiaegbhnpddlaa.A
open Go.RowKit Go.Proofs.YtoiaegbhnpddlaaW.PrintWords Go.Proofs.YtoiaegbhnpddlaaW.PrintLast Go.Proofs.YtoiaegbhnpddlaaW.PrintMore
attribute [local go_sem] max2_int min2_int max_two min_two max_three min_three max_four min_four   -- for this text's walks alone
set_option linter.unusedVariables false
set_option linter.unusedSimpArgs false

/-! ### tensor_Fold: function 18 (given) -/
section
attribute [local go_sem] Oper.semAt_some
theorem results_cs {P : Program} {fn : Func} {p p' : Tmp} {ty ty' : TypeId} (h : fn.results = #[.cell p ty, .cell p' ty']) (tmps : Array Value) (w : World) (g g' : Nat) (t : TypeId) (cs : Array Value) (fr : Nat × Nat) (d : TypeDesc) (v : Value)
  (hp : tmps.getD p undef = .pointer (some ⟨g, 0, none⟩)) (hp' : tmps.getD p' undef = .pointer (some ⟨g', 0, none⟩)) (hg : w.heap[g]? = some (.cells cs t fr)) (hl : (loadVar ty' ⟨g', 0, none⟩).run P w = .ok v w)
  (hu : P.underlying ty = some d) (hd : (match d with | .struct _ | .array _ _ => true | _ => false) = true) (hi : (P.info? ty).map (·.size) = some cs.size) :
  (results fn tmps).run P w = .ok (.tuple #[.agg cs, v]) w := by
 have hp2 : tmps[p]?.getD undef = .pointer (some ⟨g, 0, none⟩) := by simpa using hp
 have hp3 : tmps[p']?.getD undef = .pointer (some ⟨g', 0, none⟩) := by simpa using hp'
 simp [results, h, hp2, hp3, asAddr, run_loadVar_row w g t ty cs fr d hg hu hd hi, hl]
theorem load27 (w : World) (g : Nat) (e : Int) (h : w.heap[g]? = some (.cells #[.int .i64 e] 27 (0, 0))) : (loadVar 27 ⟨g, 0, none⟩).run Try.prog w = .ok (.int .i64 e) w := by
 have x1 : w.cell? ⟨g, 0, none⟩ = some (.int .i64 e) := (blk_cell h 0).trans rfl
 have hu := Try.underlying27
 unfold loadVar
 go_simp
/-- A sum, or its error. -/
def addR (a b : Int) : Int × Int := (fix_Add.f a b).getD (0, 0)
theorem addR_eq (a b : Int) : fix_Add.f a b = some ((addR a b).1, (addR a b).2) := by
 have h : ∃ r, fix_Add.f a b = some r := by
  have ht : ∀ x y, ∃ r, fix_told.f x y = some r := by
   intro x y
   unfold fix_told.f
   split
   ·exact ⟨_, rfl⟩
   ·exact ⟨_, rfl⟩
  unfold fix_Add.f
  split
  ·obtain ⟨r, hr⟩ := ht (wrap64 (a + b)) true
   exact ⟨_, by rw [hr]; rfl⟩
  ·obtain ⟨r, hr⟩ := ht (wrap64 (a + b)) ((decide ((wrap64 (a + b)) < 0)) == (decide (a < 0)))
   exact ⟨_, by rw [hr]; rfl⟩
 obtain ⟨r, hr⟩ := h
 unfold addR
 rw [hr]
 rfl
/-- What a round does: what has come, or the first error. -/
def foPut (l ats : List Int) (N : Nat) (st : List Int × Int) (x : Fin N) : List Int × Int :=
 if st.2 = 0 then (if (addR (rd st.1 (rd ats ((x : Nat) : Int))) (rd l ((x : Nat) : Int))).2 = 0 then (st.1.set (rd ats ((x : Nat) : Int)).toNat (addR (rd st.1 (rd ats ((x : Nat) : Int))) (rd l ((x : Nat) : Int))).1, 0) else (st.1, (addR (rd st.1 (rd ats ((x : Nat) : Int))) (rd l ((x : Nat) : Int))).2)) else st
theorem fo_stick {l ats : List Int} {N : Nat} (xs : List (Fin N)) (st : List Int × Int) (h : st.2 ≠ 0) : xs.foldl (foPut l ats N) st = st := by
 induction xs with
 | nil => rfl
 | cons x xs ih => rw [List.foldl_cons, show foPut l ats N st x = st from if_neg h, ih]
theorem fo_len {l ats : List Int} {N : Nat} (xs : List (Fin N)) (st : List Int × Int) : (xs.foldl (foPut l ats N) st).1.length = st.1.length := by
 induction xs generalizing st with
 | nil => rfl
 | cons x xs ih =>
  rw [List.foldl_cons, ih]
  unfold foPut
  split
  ·split
   ·simp
   ·rfl
  ·rfl
def foAll (l ats D0 : List Int) (N : Nat) : List Int × Int := (List.finRange N).foldl (foPut l ats N) (D0, 0)
def tensor_Fold.f (k : Nat) (l0_0 l0_1 l1 : List Int) : Option (List Int × List Int × Int) :=
 (tensor_Check.f k l0_0 l0_1).bind fun ok => if ok = true then ((shape_Fits.f k l1 l0_0).bind fun fit => if fit = true then
  ((shape_Size.f k l0_0).bind fun n => (tensor_Full.f k l1 0).bind fun o => if o.2.2 = 0 ∧ 0 < n ∧ l0_1.length = n.toNat ∧ n < 17592186044416 ∧ l0_0.length < 17592186044416 ∧ l1.length ≤ l0_0.length ∧ 0 < o.2.1.length then
   ((fplaces k l1 l0_0 n.toNat 0).bind fun ats => if (ats.all fun a => decide (0 ≤ a ∧ a < (o.2.1.length : Int))) = true then (if (foAll l0_1 ats o.2.1 n.toNat).2 = 0 then some (o.1, (foAll l0_1 ats o.2.1 n.toNat).1, 0) else some ([], [], (foAll l0_1 ats o.2.1 n.toNat).2)) else none) else none) else some ([], [], 20)) else some ([], [], 30)
theorem sp_at' {k N M p : Nat} {s great ats : List Int} (h : fplaces k s great N 0 = some ats) (ha : (ats.all fun a => decide (0 ≤ a ∧ a < (M : Int))) = true) (hp : p < N) : 0 ≤ rd ats (p : Int) ∧ rd ats (p : Int) < (M : Int) := by
 have hl := fplaces_len h
 have := List.all_eq_true.mp ha (rd ats (p : Int)) (by simp [rd, show p < ats.length by omega])
 simpa using this
theorem fo_err {W : World} {rb eb : Nat} {e0 : Int} (BR : W.heap[rb]? = some (.cells #[.slice none 0 0, .slice none 0 0] 24 (0, 0))) (BE : W.heap[eb]? = some (.cells #[.int .i64 e0] 27 (0, 0))) (hne : rb ≠ eb) (e : Int) :
  (((W.setCell ⟨rb, 0, none⟩ (.slice none 0 0)).setCell ⟨rb, 1, none⟩ (.slice none 0 0)).setCell ⟨eb, 0, none⟩ (.int .i64 e)).heap[rb]? = some (.cells #[.slice none 0 0, .slice none 0 0] 24 (0, 0)) ∧
  (((W.setCell ⟨rb, 0, none⟩ (.slice none 0 0)).setCell ⟨rb, 1, none⟩ (.slice none 0 0)).setCell ⟨eb, 0, none⟩ (.int .i64 e)).heap[eb]? = some (.cells #[.int .i64 e] 27 (0, 0)) := by
 constructor
 ·exact (Below.heap_setCell _ ⟨eb, 0, none⟩ _ rb hne).trans (blk_put (cs := #[.slice none 0 0, .slice none 0 0]) (blk_put (cs := #[.slice none 0 0, .slice none 0 0]) BR 0 _ rfl) 1 _ rfl)
 ·exact blk_put (cs := #[.int .i64 e0]) ((Below.heap_setCell _ ⟨rb, 1, none⟩ _ eb (Ne.symm hne)).trans ((Below.heap_setCell _ ⟨rb, 0, none⟩ _ eb (Ne.symm hne)).trans BE)) 0 _ rfl
theorem fo_bel {w W : World} {rb eb : Nat} {a b c : Value} (h : Below w.heap.size w W) (h1 : w.heap.size ≤ rb) (h2 : w.heap.size ≤ eb) : Below w.heap.size w (((W.setCell ⟨rb, 0, none⟩ a).setCell ⟨rb, 1, none⟩ b).setCell ⟨eb, 0, none⟩ c) :=
 ((h.setCell (p := ⟨rb, 0, none⟩) h1 _).setCell (p := ⟨rb, 1, none⟩) h1 _).setCell (p := ⟨eb, 0, none⟩) h2 _
structure FoInv (w0 : World) (B tb rb eb ob d : Nat) (A0 : Option Addr) (c0 : Nat) (l0 : List Int) (A1 : Option Addr) (c1 : Nat) (l1 : List Int) (v0 : Value) (cd : Nat) (s : List Int) (N : Nat) (st : List Int × Int) (W : World) : Prop where
 sp : SpInv w0 B tb rb ob d A0 c0 l0 A1 c1 l1 v0 cd s N st.1 W
 be : W.heap[eb]? = some (.cells #[.int .i64 0] 27 (0, 0))
 ok : st.2 = 0
theorem FoInv.grown {w0 W W' : World} {B tb rb eb ob d : Nat} {A0 : Option Addr} {c0 : Nat} {l0 : List Int} {A1 : Option Addr} {c1 : Nat} {l1 : List Int} {v0 : Value} {cd : Nat} {s : List Int} {N : Nat} {st : List Int × Int} {row : Option Nat} (h : FoInv w0 B tb rb eb ob d A0 c0 l0 A1 c1 l1 v0 cd s N st W) (hg : W.grownBy W' row) (hr : ∀ r, row = some r → w0.heap.size ≤ r ∧ ∃ o : Obj, W.heap[r]? = some o ∧ o.isCells = false) : FoInv w0 B tb rb eb ob d A0 c0 l0 A1 c1 l1 v0 cd s N st W' :=
 ⟨h.sp.grown hg hr, block_grown h.be rfl hg (fun r e => (hr r e).2), h.ok⟩
theorem FoInv.put {w0 W : World} {B tb rb eb ob d : Nat} {A0 : Option Addr} {c0 : Nat} {l0 : List Int} {A1 : Option Addr} {c1 : Nat} {l1 : List Int} {v0 : Value} {cd : Nat} {s : List Int} {N : Nat} {D : List Int} (h : FoInv w0 B tb rb eb ob d A0 c0 l0 A1 c1 l1 v0 cd s N (D, 0) W) (hd : w0.heap.size ≤ d) (i : Nat) (x : Int) : FoInv w0 B tb rb eb ob d A0 c0 l0 A1 c1 l1 v0 cd s N (D.set i x, 0) (W.setCell ⟨d, i, none⟩ (.int .i64 x)) := by
 refine ⟨h.sp.put hd i x, ?_, rfl⟩
 obtain ⟨cs, hc⟩ := own_typed (Kd.own_of_R h.sp.da) d (by simp [Value.ownBlock])
 refine (Below.heap_setCell W ⟨d, i, none⟩ _ eb (fun e => ?_)).trans h.be
 have hbe := h.be
 rw [show eb = d from e, hc] at hbe
 injection hbe with hbe
 injection hbe with _ h3 _
 exact absurd h3 (by decide)
/-- What is known where a round has left. -/
structure FoOut (w0 : World) (rb eb : Nat) (e : Int) (c : Code) (W : World) : Prop where
 ret : c = .ret
 ne : e ≠ 0
 bel : Below w0.heap.size w0 W
 br : W.heap[rb]? = some (.cells #[.slice none 0 0, .slice none 0 0] 24 (0, 0))
 be : W.heap[eb]? = some (.cells #[.int .i64 e] 27 (0, 0))
theorem FoOut.grown {w0 W W' : World} {rb eb : Nat} {e : Int} {c : Code} {row : Option Nat} (h : FoOut w0 rb eb e c W) (hg : W.grownBy W' row) (hr : ∀ r, row = some r → w0.heap.size ≤ r ∧ ∃ o : Obj, W.heap[r]? = some o ∧ o.isCells = false) : FoOut w0 rb eb e c W' :=
 ⟨h.ret, h.ne, h.bel.grown hg h.bel.size (fun k e => (hr k e).1), block_grown h.br rfl hg (fun r e => (hr r e).2), block_grown h.be rfl hg (fun r e => (hr r e).2)⟩
set_option maxHeartbeats 8000000 in
set_option maxRecDepth 100000 in
theorem tensor_Fold.calls (k : Nat) (A0_0 : Option Addr) (c0_0 : Nat) (l0_0 : List Int) (A0_1 : Option Addr) (c0_1 : Nat) (l0_1 : List Int) (A1 : Option Addr) (c1 : Nat) (l1 : List Int) (r1 r2 : List Int) (r3 : Int) (w : World) (hr0_0 : Kd.C (Kd.int .i64) w A0_0 l0_0.length l0_0) (hc0_0 : l0_0.length ≤ c0_0) (hr0_1 : Kd.C (Kd.int .i64) w A0_1 l0_1.length l0_1) (hc0_1 : l0_1.length ≤ c0_1) (hr1 : Kd.C (Kd.int .i64) w A1 l1.length l1) (hc1 : l1.length ≤ c1) (h : tensor_Fold.f k l0_0 l0_1 l1 = some (r1, r2, r3)) :
  Calls Try.prog 18 #[.agg #[.slice A0_0 l0_0.length c0_0, .slice A0_1 l0_1.length c0_1], .slice A1 l1.length c1] w fun e w' => ∃ v0_ v1_ : Value, e = .returned (.tuple #[.agg #[v0_, v1_], .int .i64 r3]) ∧ Kd.R (Kd.int .i64) 3 w' w.heap.size (fun k_ => some k_ ≠ (v1_ : Value).ownBlock) v0_ r1 ∧ Kd.R (Kd.int .i64) 3 w' w.heap.size (fun k_ => some k_ ≠ (v0_ : Value).ownBlock) v1_ r2 ∧ Below w.heap.size w w' := by
 unfold tensor_Fold.f at h
 have hu24 := Try.underlying24
 have HR0 := Aside0.mk hr0_0
 have HC0 := Aside0.mk hc0_0
 have HR1 := Aside0.mk hr0_1
 have HC1 := Aside0.mk hc0_1
 have HRs := Aside0.mk hr1
 have HCs := Aside0.mk hc1
 clear hr0_0 hc0_0 hr0_1 hc0_1 hr1 hc1
 obtain ⟨ok, hck, h'⟩ := Option.bind_eq_some_iff.mp h
 clear h
 have HCK := Aside0.mk hck
 clear hck
 refine (callsIn_wide (n := 3)).1 (callsIn_of_wp_marks Try.func18 rfl trivial ?_)
 simp only [Try.ntmps18, List.size_toArray, List.length_cons, List.length_nil, Nat.reduceAdd, Nat.reduceSub, Array.replicate_succ, Array.replicate_zero, List.push_toArray, List.append_toArray, List.nil_append, List.cons_append]
 refine (wpIn_wide (n := 3)).2 ?_
 obtain ⟨Q, hQ⟩ : ∃ Q, Q = bodyPostM Fence.wide 3 Try.prog Try.f18 (fun e w' => ∃ v0_ v1_ : Value, e = .returned (.tuple #[.agg #[v0_, v1_], .int .i64 r3]) ∧ Kd.R (Kd.int .i64) 3 w' w.heap.size (fun k_ => some k_ ≠ (v1_ : Value).ownBlock) v0_ r1 ∧ Kd.R (Kd.int .i64) 3 w' w.heap.size (fun k_ => some k_ ≠ (v0_ : Value).ownBlock) v1_ r2 ∧ Below w.heap.size w w') := ⟨_, rfl⟩
 rw [← hQ]
 have HQ := Aside0.mk hQ
 clear hQ
 obtain ⟨o1, ho1⟩ : ∃ o1 : Obj, o1 = .cells #[.slice A0_0 l0_0.length c0_0, .slice A0_1 l0_1.length c0_1] 24 := ⟨_, rfl⟩
 obtain ⟨o2, ho2⟩ : ∃ o2 : Obj, o2 = .cells #[.slice none 0 0, .slice none 0 0] 24 := ⟨_, rfl⟩
 obtain ⟨o3, ho3⟩ : ∃ o3 : Obj, o3 = .cells #[.int .i64 0] 27 := ⟨_, rfl⟩
 have BT := Aside0.mk (show (((w.alloc o1).alloc o2).alloc o3).heap[w.heap.size]? = some o1 from blk_alloc (blk_alloc (blk_new w o1) o2) o3)
 have BR := Aside0.mk (show (((w.alloc o1).alloc o2).alloc o3).heap[w.heap.size + 1]? = some o2 from by have := blk_new (w.alloc o1) o2; rw [World.size_alloc] at this; exact blk_alloc this o3)
 have BE := Aside0.mk (show (((w.alloc o1).alloc o2).alloc o3).heap[w.heap.size + 2]? = some o3 from by have := blk_new ((w.alloc o1).alloc o2) o3; rw [World.size_alloc, World.size_alloc] at this; exact this)
 have HB := Aside0.mk (show Below w.heap.size w (((w.alloc o1).alloc o2).alloc o3) from below_alloc (below_alloc (below_alloc (Below.refl _ _) _) _) _)
 rw [ho1, ho2, ho3] at HB
 rw [ho1, ho2, ho3] at BT
 rw [ho1, ho2, ho3] at BR
 rw [ho1, ho2, ho3] at BE
 clear ho1 ho2 ho3 o1 o2 o3
 go_wp2_with fail
 refine (tensor_Check.calls k A0_0 c0_0 l0_0 A0_1 c0_1 l0_1 ok _ (Kd.C_below HR0.out HB.out) HC0.out (Kd.C_below HR1.out HB.out) HC1.out HCK.out).mono ?_
 rintro e w3 ⟨rfl, hb3⟩
 replace BT := Aside0.mk (blk_below BT.out hb3)
 replace BR := Aside0.mk (blk_below BR.out hb3); replace BE := Aside0.mk (blk_below BE.out hb3)
 replace HB := Aside0.mk (below_step HB.out hb3)
 clear hb3
 have y0 := blk_frozen BR.out 0
 have y1 := blk_frozen BR.out 1
 have x0 : w3.cell? ⟨w.heap.size + 1, 0, none⟩ = some (.slice none 0 0) := (blk_cell BR.out 0).trans rfl
 have x1 : w3.cell? ⟨w.heap.size + 1, 1, none⟩ = some (.slice none 0 0) := (blk_cell BR.out 1).trans rfl; have ye := blk_frozen BE.out 0; have xe : w3.cell? ⟨w.heap.size + 2, 0, none⟩ = some (.int .i64 0) := (blk_cell BE.out 0).trans rfl
 cases ok with
 | false =>
  simp only [if_false, Bool.false_eq_true] at h'
  have h2 := Option.some.inj h'
  simp only [Prod.mk.injEq] at h2
  obtain ⟨rfl, rfl, rfl⟩ := h2
  clear h'
  go_wp2_with fail
  rw [HQ.out]
  obtain ⟨f1, f2⟩ := fo_err BR.out BE.out (by omega) 30
  refine ⟨_, results_cs rfl _ _ (w.heap.size + 1) (w.heap.size + 2) 24 #[.slice none 0 0, .slice none 0 0] (0, 0) _ (.int .i64 30) rfl rfl f1 (load27 _ _ _ f2) Try.underlying24 rfl (by kernel_rfl), ?_⟩
  exact ⟨_, _, rfl, Kd.R_nil _ _ _ _ _, Kd.R_nil _ _ _ _ _, fo_bel HB.out (Nat.le_succ _) (by omega)⟩
 | true =>
  simp only [if_true] at h'
  obtain ⟨fit, hfit, h⟩ := Option.bind_eq_some_iff.mp h'
  clear h'
  have HFit := Aside0.mk hfit
  clear hfit
  have z0 : w3.cell? ⟨w.heap.size, 0, none⟩ = some (.slice A0_0 l0_0.length c0_0) := (blk_cell BT.out 0).trans rfl
  have H := Aside0.mk h
  clear h
  go_wp2_with fail
  refine (shape_Fits.calls k A1 c1 l1 A0_0 c0_0 l0_0 fit _ (Kd.C_below HRs.out HB.out) HCs.out (Kd.C_below HR0.out HB.out) HC0.out HFit.out).mono ?_
  rintro e w4 ⟨rfl, hb4⟩
  replace BT := Aside0.mk (blk_below BT.out hb4)
  replace BR := Aside0.mk (blk_below BR.out hb4); replace BE := Aside0.mk (blk_below BE.out hb4)
  replace HB := Aside0.mk (below_step HB.out hb4)
  clear hb4 y0 y1 x0 x1 ye xe z0
  have h' := H.out
  clear H
  cases fit with
  | false =>
   have y0 := blk_frozen BR.out 0
   have y1 := blk_frozen BR.out 1
   have x0 : w4.cell? ⟨w.heap.size + 1, 0, none⟩ = some (.slice none 0 0) := (blk_cell BR.out 0).trans rfl
   have x1 : w4.cell? ⟨w.heap.size + 1, 1, none⟩ = some (.slice none 0 0) := (blk_cell BR.out 1).trans rfl; have ye := blk_frozen BE.out 0; have xe : w4.cell? ⟨w.heap.size + 2, 0, none⟩ = some (.int .i64 0) := (blk_cell BE.out 0).trans rfl
   simp only [if_false, Bool.false_eq_true] at h'
   have h2 := Option.some.inj h'
   simp only [Prod.mk.injEq] at h2
   obtain ⟨rfl, rfl, rfl⟩ := h2
   clear h'
   go_wp2_with fail
   rw [HQ.out]
   obtain ⟨f1, f2⟩ := fo_err BR.out BE.out (by omega) 20
   refine ⟨_, results_cs rfl _ _ (w.heap.size + 1) (w.heap.size + 2) 24 #[.slice none 0 0, .slice none 0 0] (0, 0) _ (.int .i64 20) rfl rfl f1 (load27 _ _ _ f2) Try.underlying24 rfl (by kernel_rfl), ?_⟩
   exact ⟨_, _, rfl, Kd.R_nil _ _ _ _ _, Kd.R_nil _ _ _ _ _, fo_bel HB.out (Nat.le_succ _) (by omega)⟩
  | true =>
   simp only [if_true] at h'
   obtain ⟨n, hn, h1⟩ := Option.bind_eq_some_iff.mp h'
   clear h'
   obtain ⟨⟨s', D0, e'⟩, ho, h2⟩ := Option.bind_eq_some_iff.mp h1
   clear h1
   simp only at h2
   split at h2
   case isFalse => cases h2
   case isTrue hcs =>
   obtain ⟨he0, hn0, hlen, hnl, hsl, hll, hM⟩ := hcs
   subst he0
   obtain ⟨ats, hats, h3⟩ := Option.bind_eq_some_iff.mp h2
   clear h2
   split at h3
   case isFalse => cases h3
   case isTrue hall =>
   obtain ⟨N, hN⟩ : ∃ N : Nat, n = (N : Int) := ⟨n.toNat, by omega⟩
   subst hN
   simp only [Int.toNat_natCast] at hlen hats h3
   have H3 := Aside0.mk h3
   clear h3
   obtain ⟨M, hMM⟩ : ∃ M, M = D0.length := ⟨_, rfl⟩
   rw [← hMM] at hall hM
   have HN := Aside0.mk hn
   have HO := Aside0.mk ho
   have HC := Aside0.mk (show 0 < M ∧ D0.length = M ∧ N < 17592186044416 ∧ l0_0.length < 17592186044416 ∧ l1.length ≤ l0_0.length ∧ l0_1.length = N from ⟨hM, hMM.symm, by omega, hsl, hll, hlen⟩)
   have HA := Aside0.mk hats
   have HAll := Aside0.mk hall
   clear hn ho hn0 hlen hnl hsl hll hats hall hM hMM
   go_wp2_with fail
   refine (tensor_Full.calls k A1 c1 l1 0 s' D0 0 _ (Kd.C_below HRs.out HB.out) HCs.out HO.out).mono ?_
   rintro e w5 ⟨v0, v1, rfl, hR0, hR1, hb5⟩
   obtain ⟨d, cd, rfl, hd1, hd2, _⟩ := Kd.R_form hR1 (by have := HC.out.1; have := HC.out.2.1; omega)
   rw [HC.out.2.1] at hR1 hR0 ⊢
   obtain ⟨A2, c2, rfl⟩ := Kd.R_slice hR0
   have HL4 := Aside0.mk (blk_lt BE.out)
   replace BT := Aside0.mk (blk_below BT.out hb5)
   replace BR := Aside0.mk (blk_below BR.out hb5); replace BE := Aside0.mk (blk_below BE.out hb5)
   replace HB := Aside0.mk (below_step HB.out hb5)
   have HD := Aside0.mk (show w4.heap.size ≤ d ∧ d < w5.heap.size from ⟨hd1, hd2⟩)
   have HS0 := Aside0.mk (Kd.R_mono (ok' := fun k_ => k_ ≠ d) hR0 (fun k_ hk e => hk (by rw [e]; rfl)))
   have HD0 := Aside0.mk hR1
   clear hR0 hR1 hb5 hd1 hd2
   have z0 : (w5.alloc (.cells #[.slice A2 s'.length c2, .slice (some ⟨d, 0, none⟩) M cd] 24)).cell? ⟨w.heap.size, 0, none⟩ = some (.slice A0_0 l0_0.length c0_0) := (blk_cell (blk_alloc BT.out _) 0).trans rfl
   have BO := Aside0.mk (blk_new w5 (.cells #[.slice A2 s'.length c2, .slice (some ⟨d, 0, none⟩) M cd] 24))
   replace BT := Aside0.mk (blk_alloc BT.out (.cells #[.slice A2 s'.length c2, .slice (some ⟨d, 0, none⟩) M cd] 24))
   replace BR := Aside0.mk (blk_alloc BR.out (.cells #[.slice A2 s'.length c2, .slice (some ⟨d, 0, none⟩) M cd] 24)); replace BE := Aside0.mk (blk_alloc BE.out (.cells #[.slice A2 s'.length c2, .slice (some ⟨d, 0, none⟩) M cd] 24))
   have HB5 := HB
   replace HB := Aside0.mk (below_alloc HB.out (.cells #[.slice A2 s'.length c2, .slice (some ⟨d, 0, none⟩) M cd] 24))
   have hg6 := World.grownBy_alloc w5 (.cells #[.slice A2 s'.length c2, .slice (some ⟨d, 0, none⟩) M cd] 24) none
   replace HS0 := Aside0.mk (R_grown HS0.out hg6 (fun r e => by cases e))
   replace HD0 := Aside0.mk (R_grown HD0.out hg6 (fun r e => by cases e))
   clear hg6
   go_wp2_with fail
   obtain ⟨W6, hW6⟩ : ∃ W6, W6 = w5.alloc (.cells #[.slice A2 s'.length c2, .slice (some ⟨d, 0, none⟩) M cd] 24) := ⟨_, rfl⟩
   have HS6 := Aside0.mk (show W6.heap.size = w5.heap.size + 1 by rw [hW6, World.size_alloc])
   rw [← hW6] at BO BT BR BE HB HS0 HD0 ⊢
   clear hW6 z0
   refine (tensor_from.calls A1 c1 l1.length A0_0 c0_0 l0_0.length W6).mono ?_
   rintro e w7 ⟨rfl, hw7⟩
   have HI0 : SpInv w w4.heap.size w.heap.size (w.heap.size + 1) w5.heap.size d A0_0 c0_0 l0_0 A0_1 c0_1 l0_1 (.slice A2 s'.length c2) cd s' M D0 W6 := ⟨HB.out, BT.out, BR.out, BO.out, HS0.out, HD0.out⟩
   have hg7 : W6.grownBy w7 none := by rw [hw7]; exact (World.grownBy_alloc W6 _ none).trans (World.grownBy_alloc _ _ none)
   have HI7 := Aside0.mk (HI0.grown hg7 (fun r e => by cases e))
   have BE7 := Aside0.mk (block_grown BE.out rfl hg7 (fun r e => by cases e))
   have HF := Aside0.mk (show FrEnv w d l1 l0_0 A1 A0_0 c1 c0_0 W6.heap.size (W6.heap.size + 1) w7 from ⟨HI7.out.bel, HRs.out, HR0.out, HCs.out, HC0.out, HC.out.2.2.2.2.1, HC.out.2.2.2.1, by rw [hw7]; exact blk_alloc (blk_new W6 _) _, by rw [hw7]; have := blk_new (W6.alloc (.cells #[.slice A1 l1.length c1] 22)) (.cells #[.slice A0_0 l0_0.length c0_0] 22); rwa [World.size_alloc] at this, by have := HD.out; have := HS6.out; omega, by have := HD.out; have := HS6.out; omega, by have := HD.out; have := HS6.out; have := hg7.size; omega, by have := HD.out; have := HL4.out; omega⟩)
   have HS7 := Aside0.mk (show W6.heap.size + 1 < w7.heap.size by rw [hw7]; simp)
   clear HI0 hg7 hw7 BO BT BR BE HB HS0 HD0 HB5
   go_wp2_with fail
   refine range_walk (n := 3) (gf := 45) (lb := #[.pointer (some ⟨W6.heap.size + 1, 0, none⟩), .pointer (some ⟨W6.heap.size, 0, none⟩)]) (by omega) rfl (enters_of Try.func45 (by kernel_rfl) rfl)
    (tensor_from1.seq k 2 N w w7 d l1 l0_0 A1 A0_0 c1 c0_0 W6.heap.size (W6.heap.size + 1) HF.out (by have := HS7.out; omega) HS7.out HN.out HC.out.2.2.1 ats (fplaces_at0 HA.out))
    (fun h k => h.trans k) (fun W l o o' hl ho hc _ => Frk.putObj W l o o' (by have := HF.out.bel.size; omega) ho hc) (fun _ => rfl)
    (fun pre W => FoInv w w4.heap.size w.heap.size (w.heap.size + 1) (w.heap.size + 2) w5.heap.size d A0_0 c0_0 l0_0 A0_1 c0_1 l0_1 (.slice A2 s'.length c2) cd s' M (pre.foldl (foPut l0_1 ats N) (D0, 0)) W)
    (fun c pre W => FoOut w (w.heap.size + 1) (w.heap.size + 2) (pre.foldl (foPut l0_1 ats N) (D0, 0)).2 c W)
    (fun pre W W' row h hg hr => h.grown hg (fun r e => ⟨Nat.le_trans HF.out.bel.size (hr r e).1, (hr r e).2⟩)) (fun c pre W W' row h hg hr => h.grown hg (fun r e => ⟨Nat.le_trans HF.out.bel.size (hr r e).1, (hr r e).2⟩)) ⟨HI7.out, BE7.out, rfl⟩ ?rounds ?done ?stop
   case rounds =>
    apply Exists.intro
    refine ⟨?assign, ?body⟩
    case assign =>
     intro l x W K hK
     gi_wp2
     exact hK
    case body =>
     rintro l pre ⟨p, hp⟩ W hi hlen
     have HI := Aside0.mk hi
     clear hi hlen
     have hat := sp_at' HA.out HAll.out hp
     obtain ⟨st, hst⟩ : ∃ st, st = pre.foldl (foPut l0_1 ats N) (D0, 0) := ⟨_, rfl⟩
     rw [← hst] at HI
     obtain ⟨D, e0⟩ := st
     obtain rfl : e0 = 0 := HI.out.ok
     obtain ⟨a, ha⟩ : ∃ a, a = rd ats (p : Int) := ⟨_, rfl⟩
     have hstep : (pre ++ [(⟨p, hp⟩ : Fin N)]).foldl (foPut l0_1 ats N) (D0, 0) = (if (addR (rd D a) (rd l0_1 (p : Int))).2 = 0 then (D.set a.toNat (addR (rd D a) (rd l0_1 (p : Int))).1, 0) else (D, (addR (rd D a) (rd l0_1 (p : Int))).2)) := by
      rw [List.foldl_append, ← hst, ha]
      simp [foPut]
     have HStep := Aside0.mk hstep
     clear hstep hst
     simp only
     rw [← ha] at hat ⊢
     clear ha
     have hpl : (p : Int) < (l0_1.length : Int) := by have := HC.out.2.2.2.2.2; omega
     obtain ⟨ad, hA, hc⟩ := Kd.at_int (Kd.C_below HR1.out HI.out.sp.bel) (p : Int) (by omega) hpl
     simp only [Int.toNat_natCast] at hc
     have q1 := eq_true hat.1
     have q2 := eq_true hat.2
     have q3 : (0 ≤ (p : Int)) = True := eq_true (by omega)
     have q4 : ((p : Int) < (l0_1.length : Int)) = True := eq_true hpl
     have q5 : (p < l0_1.length) = True := eq_true (by omega)
     obtain ⟨x1, y1⟩ := Kd.R_celln 0 HI.out.sp.da a hat.1 hat.2
     have x1 : W.cell? ⟨d, a.toNat, none⟩ = some (.int .i64 (rd D a)) := x1
     have x2 : W.cell? ⟨w5.heap.size, 1, none⟩ = some (.slice (some ⟨d, 0, none⟩) M cd) := (blk_cell HI.out.sp.bo 1).trans rfl
     have x3 : W.cell? ⟨w.heap.size, 1, none⟩ = some (.slice A0_1 l0_1.length c0_1) := (blk_cell HI.out.sp.bt 1).trans rfl
     rw [hA] at x3
     have HHA := Aside0.mk hA
     have HHat := Aside0.mk hat
     clear hat hA hpl
     have hmx : Try.prog.follows .mixedOrders = true := by kernel_rfl
     gi_wp2
     refine round_start (m := 16) (S := fun w' => w'.cell? ⟨w5.heap.size, 1, none⟩ = some (.slice (some ⟨d, 0, none⟩) M cd) ∧ w'.cell? ⟨w.heap.size, 1, none⟩ = some (.slice (some ad) l0_1.length c0_1) ∧ w'.cell? ⟨d, a.toNat, none⟩ = some (.int .i64 (rd D a)) ∧ w'.cell? (ad.add p) = some (.int .i64 (rd l0_1 (p : Int)))) (ds := [10]) #[false, false, false, false, false, false, false, false, false, false, false, false, false, false, false, false] hmx (by kernel_rfl) ?lo rfl rfl ⟨x2, x3, x1, hc⟩ (fun hHeld => ?_)
     case lo =>
      rintro ⟨_, _, h⟩
      exact (h : False)
     refine pure_ (i := 0) (N := some 36) (v := ?_) (a' := ?_) #[true, false, false, false, false, false, false, false, false, false, false, false, false, false, false, false] rfl rfl (by kernel_rfl) (fun _ _ _ h => h) (Or.inl ⟨by rfl, ?_⟩) ?_ ?_
     rotate_left
     ·intro w'
      go_simp
      with_reducible rfl
     rotate_left
     ·simp only [Act.put, sA_, sB_, sC_, i64_w, i32_w]
      rfl
     refine pure_ (i := 2) (N := some 38) (v := ?_) (a' := ?_) #[true, false, true, false, false, false, false, false, false, false, false, false, false, false, false, false] rfl rfl (by kernel_rfl) (fun _ _ _ h => h) (Or.inl ⟨by rfl, ?_⟩) ?_ ?_
     rotate_left
     ·intro w'
      go_simp
      with_reducible rfl
     rotate_left
     ·simp only [Act.put, sA_, sB_, sC_, i64_w, i32_w]
      rfl
     refine pure_ (i := 5) (N := some 41) (v := ?_) (a' := ?_) #[true, false, true, false, false, true, false, false, false, false, false, false, false, false, false, false] rfl rfl (by kernel_rfl) (fun _ _ _ h => h) (Or.inl ⟨by rfl, ?_⟩) ?_ ?_
     rotate_left
     ·intro w'
      go_simp
      with_reducible rfl
     rotate_left
     ·simp only [Act.put, sA_, sB_, sC_, i64_w, i32_w]
      rfl
     refine pure_ (i := 7) (N := some 43) (v := ?_) (a' := ?_) #[true, false, true, false, false, true, false, true, false, false, false, false, false, false, false, false] rfl rfl (by kernel_rfl) (fun _ _ _ h => h) (Or.inl ⟨by rfl, ?_⟩) ?_ ?_
     rotate_left
     ·intro w'
      go_simp
      with_reducible rfl
     rotate_left
     ·simp only [Act.put, sA_, sB_, sC_, i64_w, i32_w]
      rfl
     refine take_ (i := 1) (N := some 37) (v := ?_) (a' := ?_) #[true, true, true, false, false, true, false, true, false, false, false, false, false, false, false, false] rfl rfl (by kernel_rfl) (fun _ _ _ h => h) (Or.inl ⟨by rfl, ?_⟩) hHeld ?_ ?_
     rotate_left
     ·rintro w' ⟨s0, s1, s2, s3⟩
      go_simp
      with_reducible rfl
     rotate_left
     ·simp only [Act.put, sA_, sB_, sC_, i64_w, i32_w]
      rfl
     refine take_ (i := 6) (N := some 42) (v := ?_) (a' := ?_) #[true, true, true, false, false, true, true, true, false, false, false, false, false, false, false, false] rfl rfl (by kernel_rfl) (fun _ _ _ h => h) (Or.inl ⟨by rfl, ?_⟩) hHeld ?_ ?_
     rotate_left
     ·rintro w' ⟨s0, s1, s2, s3⟩
      go_simp
      with_reducible rfl
     rotate_left
     ·simp only [Act.put, sA_, sB_, sC_, i64_w, i32_w]
      rfl
     refine pure_ (i := 3) (N := some 39) (v := ?_) (a' := ?_) #[true, true, true, true, false, true, true, true, false, false, false, false, false, false, false, false] rfl rfl (by kernel_rfl) (fun _ _ _ h => h) (Or.inl ⟨by rfl, ?_⟩) ?_ ?_
     rotate_left
     ·intro w'
      go_simp
      with_reducible rfl
     rotate_left
     ·simp only [Act.put, sA_, sB_, sC_, i64_w, i32_w]
      rfl
     refine pure_ (i := 8) (N := some 44) (v := ?_) (a' := ?_) #[true, true, true, true, false, true, true, true, true, false, false, false, false, false, false, false] rfl rfl (by kernel_rfl) (fun _ _ _ h => h) (Or.inl ⟨by rfl, ?_⟩) ?_ ?_
     rotate_left
     ·intro w'
      go_simp
      with_reducible rfl
     rotate_left
     ·simp only [Act.put, sA_, sB_, sC_, i64_w, i32_w]
      rfl
     refine take_ (i := 4) (N := some 40) (v := ?_) (a' := ?_) #[true, true, true, true, true, true, true, true, true, false, false, false, false, false, false, false] rfl rfl (by kernel_rfl) (fun _ _ _ h => h) (Or.inl ⟨by rfl, ?_⟩) hHeld ?_ ?_
     rotate_left
     ·rintro w' ⟨s0, s1, s2, s3⟩
      go_simp
      with_reducible rfl
     rotate_left
     ·simp only [Act.put, sA_, sB_, sC_, i64_w, i32_w]
      rfl
     refine take_ (i := 9) (N := some 45) (v := ?_) (a' := ?_) #[true, true, true, true, true, true, true, true, true, true, false, false, false, false, false, false] rfl rfl (by kernel_rfl) (fun _ _ _ h => h) (Or.inl ⟨by rfl, ?_⟩) hHeld ?_ ?_
     rotate_left
     ·rintro w' ⟨s0, s1, s2, s3⟩
      go_simp
      with_reducible rfl
     rotate_left
     ·simp only [Act.put, sA_, sB_, sC_, i64_w, i32_w]
      rfl
     refine last_ (i := 10) (N := some 46) #[true, true, true, true, true, true, true, true, true, true, true, false, false, false, false, false] rfl rfl (by kernel_rfl) (by decide) (fun K hK => ?_)
     refine goes_ Try.func38 (by kernel_rfl) rfl #[.int .i64 (rd D a), .int .i64 (rd l0_1 (p : Int))] (by rfl) rfl rfl (by (try simp only [List.map_toArray, List.map_cons, List.map_nil]); first | done | rfl) ?_
     refine (fix_Add.calls (rd D a) (rd l0_1 (p : Int)) (addR (rd D a) (rd l0_1 (p : Int))).1 (addR (rd D a) (rd l0_1 (p : Int))).2 _ (addR_eq _ _)).mono ?_
     rintro e_ W1 ⟨rfl, hd1⟩
     refine ⟨_, rfl, ?_⟩
     refine hK.out _ _ ?_
     clear hK K
     refine norm_ (a' := ?_) ?_ ?_
     rotate_left
     ·show Act.put _ (some 46) _ = _
      simp only [Act.put, sA_, sB_, sC_, i64_w, i32_w]
      rfl
     refine pure_ (i := 11) (N := some 35) (v := ?_) (a' := ?_) #[true, true, true, true, true, true, true, true, true, true, true, true, false, false, false, false] rfl rfl (by kernel_rfl) (fun _ _ _ h => h) (Or.inl ⟨by rfl, ?_⟩) ?_ ?_
     rotate_left
     ·intro w'
      go_simp
      with_reducible rfl
     rotate_left
     ·simp only [Act.put, sA_, sB_, sC_, i64_w, i32_w]
      rfl
     refine pure_ (i := 12) (N := some 47) (v := ?_) (a' := ?_) #[true, true, true, true, true, true, true, true, true, true, true, true, true, false, false, false] rfl rfl (by kernel_rfl) (fun _ _ _ h => h) (Or.inl ⟨by rfl, ?_⟩) ?_ ?_
     rotate_left
     ·intro w'
      go_simp
      with_reducible rfl
     rotate_left
     ·simp only [Act.put, sA_, sB_, sC_, i64_w, i32_w]
      rfl
     refine pure_ (i := 13) (N := some 48) (v := ?_) (a' := ?_) #[true, true, true, true, true, true, true, true, true, true, true, true, true, true, false, false] rfl rfl (by kernel_rfl) (fun _ _ _ h => h) (Or.inl ⟨by rfl, ?_⟩) ?_ ?_
     rotate_left
     ·intro w'
      go_simp
      with_reducible rfl
     rotate_left
     ·simp only [Act.put, sA_, sB_, sC_, i64_w, i32_w]
      rfl
     refine pure_ (i := 14) (N := some 10) (v := ?_) (a' := ?_) #[true, true, true, true, true, true, true, true, true, true, true, true, true, true, true, false] rfl rfl (by kernel_rfl) (fun _ _ _ h => h) (Or.inl ⟨by rfl, ?_⟩) ?_ ?_
     rotate_left
     ·intro w'
      go_simp
      with_reducible rfl
     rotate_left
     ·simp only [Act.put, sA_, sB_, sC_, i64_w, i32_w]
      rfl
     refine pure_ (i := 15) (N := some 11) (v := ?_) (a' := ?_) #[true, true, true, true, true, true, true, true, true, true, true, true, true, true, true, true] rfl rfl (by kernel_rfl) (fun _ _ _ h => h) (Or.inl ⟨by rfl, ?_⟩) ?_ ?_
     rotate_left
     ·intro w'
      go_simp
      with_reducible rfl
     rotate_left
     ·simp only [Act.put, sA_, sB_, sC_, i64_w, i32_w]
      rfl
     refine done_ (by kernel_rfl) ?_
     obtain ⟨nd, rfl⟩ := hd1.out
     have hK1 : KeepsOthers W (W.drew.drewN nd) := ⟨Nat.le_refl _, fun _ _ h _ => h⟩
     have hF1 : Frk w.heap.size d W (W.drew.drewN nd) := ⟨pw_below_drewN (below_drew1 (Below.refl _ _)) nd, fun _ _ h _ _ => h⟩
     have HI1 := Aside0.mk (HI.out.grown (row := none) (W' := W.drew.drewN nd) ⟨rfl, rfl, rfl, Nat.le_refl _, fun _ _ _ => rfl⟩ (fun r e => by cases e))
     clear hd1 x1 x2 x3 y1 hc hHeld HI
     have HK1 := Aside0.mk hK1
     have HF1 := Aside0.mk hF1
     clear hK1 hF1
     generalize W.drew.drewN nd = W1 at HK1 HF1 HI1 ⊢
     have hd : w.heap.size ≤ d := HF.out.dn
     have HDn := Aside0.mk hd
     clear hd
     obtain ⟨⟨r, e⟩, hre⟩ : ∃ re, re = addR (rd D a) (rd l0_1 (p : Int)) := ⟨_, rfl⟩
     rw [← hre] at HStep ⊢
     simp only at HStep ⊢
     clear hre
     by_cases he : e = 0
     ·subst he
      have HSt := Aside0.mk (show (pre ++ [(⟨p, hp⟩ : Fin N)]).foldl (foPut l0_1 ats N) (D0, 0) = (D.set a.toNat r, 0) by rw [HStep.out, if_pos rfl])
      clear HStep
      obtain ⟨x1, y1⟩ := Kd.R_celln 0 HI1.out.sp.da a HHat.out.1 HHat.out.2
      have x2 : W1.cell? ⟨w5.heap.size, 1, none⟩ = some (.slice (some ⟨d, 0, none⟩) M cd) := (blk_cell HI1.out.sp.bo 1).trans rfl
      have hp2 := HI1.out.put HDn.out a.toNat r
      have HP2 := Aside0.mk hp2
      clear hp2
      gi_wp2
      refine ⟨(HK1.out.trans (KeepsOthers.setCell _ _ _)).from _, HF1.out.trans (Frk.set W1 HDn.out a.toNat _), ?_⟩
      show FoInv _ _ _ _ _ _ _ _ _ _ _ _ _ _ _ _ _ _ _
      rw [HSt.out]
      exact HP2.out
     ·have HSt := Aside0.mk (show (pre ++ [(⟨p, hp⟩ : Fin N)]).foldl (foPut l0_1 ats N) (D0, 0) = (D, e) by rw [HStep.out, if_neg he])
      clear HStep
      have t1 : (e != 0) = true := bne_iff_ne.mpr he
      have HNe := Aside0.mk he
      clear he
      have y1 := blk_frozen HI1.out.sp.br 0
      have y2 := blk_frozen HI1.out.sp.br 1
      have z1 : W1.cell? ⟨w.heap.size + 1, 0, none⟩ = some (.slice none 0 0) := (blk_cell HI1.out.sp.br 0).trans rfl
      have z2 : W1.cell? ⟨w.heap.size + 1, 1, none⟩ = some (.slice none 0 0) := (blk_cell HI1.out.sp.br 1).trans rfl
      have ye := blk_frozen HI1.out.be 0
      have ze : W1.cell? ⟨w.heap.size + 1 + 1, 0, none⟩ = some (.int .i64 0) := (blk_cell HI1.out.be 0).trans rfl
      gi_wp2
      refine ⟨(((HK1.out.trans (KeepsOthers.setCell _ _ _)).trans (KeepsOthers.setCell _ _ _)).trans (KeepsOthers.setCell _ _ _)).from _, ?_⟩
      show FoOut _ _ _ _ _ _
      rw [HSt.out]
      obtain ⟨f1, f2⟩ := fo_err HI1.out.sp.br HI1.out.be (by omega) e
      exact ⟨rfl, HNe.out, fo_bel HI1.out.sp.bel (Nat.le_succ _) (by omega), f1, f2⟩
   case done =>
    rintro D xs W hD rfl HI hK
    have x1 : W.cell? ⟨w5.heap.size, 0, none⟩ = some (.slice A2 s'.length c2) := (blk_cell HI.sp.bo 0).trans rfl
    have x2 : W.cell? ⟨w5.heap.size, 1, none⟩ = some (.slice (some ⟨d, 0, none⟩) M cd) := (blk_cell HI.sp.bo 1).trans rfl
    have y1 := blk_frozen HI.sp.br 0
    have y2 := blk_frozen HI.sp.br 1
    have z1 : W.cell? ⟨w.heap.size + 1, 0, none⟩ = some (.slice none 0 0) := (blk_cell HI.sp.br 0).trans rfl
    have z2 : W.cell? ⟨w.heap.size + 1, 1, none⟩ = some (.slice none 0 0) := (blk_cell HI.sp.br 1).trans rfl
    have ye := blk_frozen HI.be 0
    have ze : W.cell? ⟨w.heap.size + 1 + 1, 0, none⟩ = some (.int .i64 0) := (blk_cell HI.be 0).trans rfl
    have h3 := H3.out
    rw [if_pos (show (foAll l0_1 ats D0 N).2 = 0 from HI.ok)] at h3
    have h4 := Option.some.inj h3
    simp only [Prod.mk.injEq] at h4
    obtain ⟨rfl, rfl, rfl⟩ := h4
    clear h3 H3
    have HI' := Aside0.mk HI
    have HK := Aside0.mk hK
    have HDD := Aside0.mk hD
    clear HI hK hD
    go_wp2_with fail
    rw [HQ.out]
    have hrb : w.heap.size + 2 < w4.heap.size := HL4.out
    have hrb1 : w.heap.size + 1 < w4.heap.size := by omega
    have hB2 := fo_bel (rb := w.heap.size + 1) (eb := w.heap.size + 2) (a := .slice A2 s'.length c2) (b := .slice (some ⟨d, 0, none⟩) M cd) (c := .int .i64 0) HI'.out.sp.bel (by omega) (by omega)
    have hbr0 := blk_put (cs := #[.slice A2 s'.length c2, .slice none 0 0]) (blk_put (cs := #[.slice none 0 0, .slice none 0 0]) HI'.out.sp.br 0 (.slice A2 s'.length c2) rfl) 1 (.slice (some ⟨d, 0, none⟩) M cd) rfl
    have hbr := (Below.heap_setCell _ ⟨w.heap.size + 2, 0, none⟩ (.int .i64 0) (w.heap.size + 1) (by show w.heap.size + 1 ≠ w.heap.size + 2; omega)).trans hbr0
    have hbe := blk_put (cs := #[.int .i64 0]) ((Below.heap_setCell (W.setCell ⟨w.heap.size + 1, 0, none⟩ (.slice A2 s'.length c2)) ⟨w.heap.size + 1, 1, none⟩ (.slice (some ⟨d, 0, none⟩) M cd) (w.heap.size + 2) (by show w.heap.size + 2 ≠ w.heap.size + 1; omega)).trans ((Below.heap_setCell W ⟨w.heap.size + 1, 0, none⟩ (.slice A2 s'.length c2) (w.heap.size + 2) (by show w.heap.size + 2 ≠ w.heap.size + 1; omega)).trans HI'.out.be)) 0 (.int .i64 0) rfl
    have hsh := tn_off (tn_off (tn_off HI'.out.sp.sh hrb1 0 (.slice A2 s'.length c2)) hrb1 1 (.slice (some ⟨d, 0, none⟩) M cd)) hrb 0 (.int .i64 0)
    have hda := tn_off (tn_off (tn_off HI'.out.sp.da hrb1 0 (.slice A2 s'.length c2)) hrb1 1 (.slice (some ⟨d, 0, none⟩) M cd)) hrb 0 (.int .i64 0)
    have hkd := (((KeepsOthers.setCell W ⟨w.heap.size + 1, 0, none⟩ (.slice A2 s'.length c2)).trans (KeepsOthers.setCell _ ⟨w.heap.size + 1, 1, none⟩ (.slice (some ⟨d, 0, none⟩) M cd))).trans (KeepsOthers.setCell _ ⟨w.heap.size + 2, 0, none⟩ (.int .i64 0))).same D _ HK.out rfl
    rw [show w.heap.size + 1 + 1 = w.heap.size + 2 from rfl]
    generalize ((W.setCell ⟨w.heap.size + 1, 0, none⟩ (.slice A2 s'.length c2)).setCell ⟨w.heap.size + 1, 1, none⟩ (.slice (some ⟨d, 0, none⟩) M cd)).setCell ⟨w.heap.size + 2, 0, none⟩ (.int .i64 0) = X at hB2 hbr hbe hsh hda hkd ⊢
    have hg := grownBy_putObj' X D (.deferred none)
    have hr : ∀ r, some D = some r → ∃ o : Obj, X.heap[r]? = some o ∧ o.isCells = false := fun r e => by cases e; exact ⟨_, hkd, rfl⟩
    refine ⟨by simp, .inl ⟨_, _, rfl, run_takeDeferred hkd, ?_⟩⟩
    refine ⟨_, results_cs rfl _ _ (w.heap.size + 1) (w.heap.size + 2) 24 #[.slice A2 s'.length c2, .slice (some ⟨d, 0, none⟩) M cd] (0, 0) _ (.int .i64 0) rfl rfl (block_grown hbr rfl hg hr) (load27 _ _ _ (block_grown hbe rfl hg hr)) Try.underlying24 rfl (by kernel_rfl), ?_⟩
    refine ⟨_, _, rfl, Kd.R_mono (Kd.R_lower (R_grown hsh hg hr) (by omega)) (fun k_ hk e => hk (by simpa [Value.ownBlock] using e)), Kd.R_lower (R_grown hda hg hr) (by omega), ?_⟩
    exact hB2.grown hg hB2.size (fun k e => by cases e; have := HDD.out; have := HF.out.bel.size; omega)
   case stop =>
    rintro D c pre W hD ⟨q, hq, rfl⟩ HO hK
    obtain rfl := HO.ret
    have hall : foAll l0_1 ats D0 N = ((List.finRange N).take q).foldl (foPut l0_1 ats N) (D0, 0) := by
     unfold foAll
     conv => lhs; rw [← List.take_append_drop q (List.finRange N), List.foldl_append]
     exact fo_stick _ _ HO.ne
    have h3 := H3.out
    rw [hall, if_neg HO.ne] at h3
    have h4 := Option.some.inj h3
    simp only [Prod.mk.injEq] at h4
    obtain ⟨rfl, rfl, rfl⟩ := h4
    clear h3 H3 hall
    have HO' := Aside0.mk HO
    have HK := Aside0.mk hK
    have HDD := Aside0.mk hD
    clear HO hK hD
    refine (wpIn_wide (n := 3)).2 ?_
    go_wp2_with fail
    rw [HQ.out]
    have hkd := HK.out
    have hg := grownBy_putObj' W D (.deferred none)
    have hr : ∀ r, some D = some r → ∃ o : Obj, W.heap[r]? = some o ∧ o.isCells = false := fun r e => by cases e; exact ⟨_, hkd, rfl⟩
    refine ⟨by simp, .inl ⟨_, _, rfl, run_takeDeferred hkd, ?_⟩⟩
    refine ⟨_, results_cs rfl _ _ (w.heap.size + 1) (w.heap.size + 2) 24 #[.slice none 0 0, .slice none 0 0] (0, 0) _ _ rfl rfl (block_grown HO'.out.br rfl hg hr) (load27 _ _ _ (block_grown HO'.out.be rfl hg hr)) Try.underlying24 rfl (by kernel_rfl), ?_⟩
    exact ⟨_, _, rfl, Kd.R_nil _ _ _ _ _, Kd.R_nil _ _ _ _ _, HO'.out.bel.grown hg HO'.out.bel.size (fun k e => by cases e; have := HDD.out; have := HF.out.bel.size; omega)⟩
theorem tensor_Fold.mono : ∀ a0 a1 a2 k, LeO (tensor_Fold.f k a0 a1 a2) (tensor_Fold.f (k + 1) a0 a1 a2) := by
 intro a0 a1 a2 k
 unfold tensor_Fold.f
 repeat' first
  | (with_reducible exact shape_Fits.mono _ _ _)
  | (with_reducible exact shape_Check.mono _ _)
  | (with_reducible exact shape_Size.mono _ _)
  | (with_reducible exact tensor_Check.mono _ _ _)
  | (with_reducible exact tensor_Full.mono _ _ _)
  | (with_reducible exact fplaces.mono _ _ _ _ _)
  | (with_reducible exact LeO.refl _)
  | (with_reducible exact LeO.none _)
  | (with_reducible refine LeO.ite ?_ ?_)
  | (with_reducible refine LeO.bind ?_ (fun _ => ?_))
end


/-! ### fullerref02_Same: function 27 -/
def fullerref02_Same.l0 : Nat → List Int → List Int → Int → Option (Bool)
  | 0, _, _, _ => none
  | k + 1, x0, x1, x5 => if x5 < (x0.length : Int) then (if 0 ≤ x5 then (if x5 < (x1.length : Int) then (if (rd x0 x5) = (rd x1 x5) then (fullerref02_Same.l0 k x0 x1 (wrap64 (x5 + 1))) else (some false)) else (none)) else (none)) else (some true)
def fullerref02_Same.f (k : Nat) (l0 : List Int) (l1 : List Int) : Option (Bool) := if (l0.length : Int) = (l1.length : Int) then (fullerref02_Same.l0 k l0 l1 0) else (some false)
theorem fullerref02_Same.mono_l : ∀ k, (∀ y0 y1 y2, LeO (fullerref02_Same.l0 k y0 y1 y2) (fullerref02_Same.l0 (k + 1) y0 y1 y2))
  | 0 => fun _ _ _ r h => by simp [fullerref02_Same.l0] at h
  | k + 1 => by
    have ih0 := fullerref02_Same.mono_l k
    · intro y0 y1 y2
      unfold fullerref02_Same.l0
      repeat' first
      | (with_reducible exact ih0 _ _ _)
      | (with_reducible exact LeO.refl _)
      | (with_reducible exact LeO.none _)
      | (with_reducible refine LeO.ite ?_ ?_)
      | (with_reducible refine LeO.bind ?_ (fun _ => ?_))
      | exact ih0 _ _ _
      | exact LeO.none _
      | refine LeO.ite ?_ ?_
      | refine LeO.bind ?_ (fun _ => ?_)
theorem fullerref02_Same.mono : ∀ a0 a1 k, LeO (fullerref02_Same.f k a0 a1) (fullerref02_Same.f (k + 1) a0 a1) := by
  intro a0 a1 k
  have ih0 := fullerref02_Same.mono_l k
  unfold fullerref02_Same.f
  repeat' first
      | (with_reducible exact ih0 _ _ _)
      | (with_reducible exact LeO.refl _)
      | (with_reducible exact LeO.none _)
      | (with_reducible refine LeO.ite ?_ ?_)
      | (with_reducible refine LeO.bind ?_ (fun _ => ?_))
      | exact ih0 _ _ _
      | exact LeO.none _
      | refine LeO.ite ?_ ?_
      | refine LeO.bind ?_ (fun _ => ?_)
set_option maxHeartbeats 8000000 in
set_option maxRecDepth 100000 in
theorem fullerref02_Same.calls (k : Nat) (A0 : Option Addr) (c0 : Nat) (l0 : List Int) (A1 : Option Addr) (c1 : Nat) (l1 : List Int) (r : Bool) (w : World) (hr0 : Kd.C (Kd.int .i64) w A0 l0.length l0) (hc0 : l0.length ≤ c0) (hr1 : Kd.C (Kd.int .i64) w A1 l1.length l1) (hc1 : l1.length ≤ c1) (h : fullerref02_Same.f k l0 l1 = some r) :
    Calls Try.prog 27 #[.slice A0 l0.length c0, .slice A1 l1.length c1] w fun e w' => e = .returned (.bool r) ∧ Drawn0 w w' := by
  have HR0 := Aside0.mk hr0
  have HC0 := Aside0.mk hc0
  clear hr0 hc0
  have HR1 := Aside0.mk hr1
  have HC1 := Aside0.mk hc1
  clear hr1 hc1
  have H : (if (l0.length : Int) = (l1.length : Int) then (fullerref02_Same.l0 k l0 l1 0) else (some false)) = some r := h
  clear h
  by_cases c3 : (l0.length : Int) = (l1.length : Int)
  · rw [if_pos c3] at H
    have c3b0 : ((l0.length : Int) == (l1.length : Int)) = true := beq_iff_eq.mpr c3
    have c3b1 : ((l0.length : Int) != (l1.length : Int)) = false := bne_eq_false_iff_eq.mpr c3
    have c3b2 : (l0.length == l1.length) = true := by first | simpa using c3 | (simp at c3 ⊢; omega)
    clear c3
    have H' := Aside0.mk H
    clear H
    go_enter Try.func27, Try.ntmps27
    go_wp2
    repeat (go_quiet (fail); try go_wp2)
    go_loopg [5] k (fun kq v5 w' => ∃ (x5_1 : Int), v5 = .int .i64 x5_1 ∧ Aside0 (fullerref02_Same.l0 kq l0 l1 x5_1 = some r) ∧ Aside0 (kq ≤ k) ∧ Drawn0 w w')
    case atStart => exact ⟨(0), (by first | rfl | (simp; done) | (simp [*]; done)), H', ⟨Nat.le_refl _⟩, by repeat (first | exact Drawn0.refl _ | apply Drawn0.step)⟩
    case round =>
      clear H'
      try clear c1
      try clear c2
      try clear p2
      try clear c3
      try clear c3b0
      try clear c3b1
      try clear c3b2
      obtain ⟨x5_1, rfl, HA, HK1, ⟨m1, rfl⟩⟩ := hrel
      cases gk with
      | zero => exact absurd HA.out (by simp [fullerref02_Same.l0])
      | succ k1 =>
        have H := HA.out
        clear HA
        simp only [fullerref02_Same.l0] at H
        by_cases c4 : x5_1 < (l0.length : Int)
        · rw [if_pos c4] at H
          have c4b0 : decide (x5_1 < (l0.length : Int)) = true := decide_eq_true c4
          clear c4
          by_cases c5 : 0 ≤ x5_1
          · rw [if_pos c5] at H
            have c5b0 : decide (0 ≤ x5_1) = true := decide_eq_true c5
            clear c5
            by_cases c6 : x5_1 < (l1.length : Int)
            · rw [if_pos c6] at H
              have c6b0 : decide (x5_1 < (l1.length : Int)) = true := decide_eq_true c6
              clear c6
              by_cases c7 : (rd l0 x5_1) = (rd l1 x5_1)
              · rw [if_pos c7] at H
                have c7b0 : ((rd l0 x5_1) == (rd l1 x5_1)) = true := beq_iff_eq.mpr c7
                have c7b1 : ((rd l0 x5_1) != (rd l1 x5_1)) = false := bne_eq_false_iff_eq.mpr c7
                clear c7
                have H' := Aside0.mk H
                clear H
                have p149 : 0 ≤ (x5_1 : Int) := of_decide_eq_true (by first | (with_reducible assumption) | assumption)
                have q149 : x5_1 < (l0.length : Int) := of_decide_eq_true (by first | (with_reducible assumption) | assumption)
                obtain ⟨ad149, e149, hx149_0⟩ := Kd.at_int HR0.out x5_1 p149 q149
                cases e149
                replace p149 := eq_true p149
                replace q149 := eq_true q149
                have p150 : 0 ≤ (x5_1 : Int) := of_decide_eq_true (by first | (with_reducible assumption) | assumption)
                have q150 : x5_1 < (l1.length : Int) := of_decide_eq_true (by first | (with_reducible assumption) | assumption)
                obtain ⟨ad150, e150, hx150_0⟩ := Kd.at_int HR1.out x5_1 p150 q150
                cases e150
                replace p150 := eq_true p150
                replace q150 := eq_true q150
                go_wp2
                repeat (go_quiet (fail); try go_wp2)
                go_roundg k1
                case measure => have := HK1.out; omega
                case rel => exact ⟨(wrap64 (x5_1 + 1)), (by first | rfl | (simp; done) | (simp [*]; done)), H', ⟨by have := HK1.out; omega⟩, by repeat (first | exact Drawn0.refl _ | apply Drawn0.step)⟩
              · rw [if_neg c7] at H
                have c7b0 : ((rd l0 x5_1) == (rd l1 x5_1)) = false := beq_eq_false_iff_ne.mpr c7
                have c7b1 : ((rd l0 x5_1) != (rd l1 x5_1)) = true := bne_iff_ne.mpr c7
                obtain rfl := Option.some.inj H
                have p149 : 0 ≤ (x5_1 : Int) := of_decide_eq_true (by first | (with_reducible assumption) | assumption)
                have q149 : x5_1 < (l0.length : Int) := of_decide_eq_true (by first | (with_reducible assumption) | assumption)
                obtain ⟨ad149, e149, hx149_0⟩ := Kd.at_int HR0.out x5_1 p149 q149
                cases e149
                replace p149 := eq_true p149
                replace q149 := eq_true q149
                have p150 : 0 ≤ (x5_1 : Int) := of_decide_eq_true (by first | (with_reducible assumption) | assumption)
                have q150 : x5_1 < (l1.length : Int) := of_decide_eq_true (by first | (with_reducible assumption) | assumption)
                obtain ⟨ad150, e150, hx150_0⟩ := Kd.at_int HR1.out x5_1 p150 q150
                cases e150
                replace p150 := eq_true p150
                replace q150 := eq_true q150
                go_wp2
                repeat (go_quiet (fail); try go_wp2)
                go_ret
                exact ⟨by first | rfl | (simp; done) | (simp [*]; done), by repeat (first | exact Drawn0.refl _ | apply Drawn0.step)⟩
            · rw [if_neg c6] at H
              exact absurd H (by simp)
          · rw [if_neg c5] at H
            exact absurd H (by simp)
        · rw [if_neg c4] at H
          have c4b0 : decide (x5_1 < (l0.length : Int)) = false := decide_eq_false c4
          clear c4
          obtain rfl := Option.some.inj H
          go_wp2
          repeat (go_quiet (fail); try go_wp2)
          go_ret
          exact ⟨by first | rfl | (simp; done) | (simp [*]; done), by repeat (first | exact Drawn0.refl _ | apply Drawn0.step)⟩
  · rw [if_neg c3] at H
    have c3b0 : ((l0.length : Int) == (l1.length : Int)) = false := beq_eq_false_iff_ne.mpr c3
    have c3b1 : ((l0.length : Int) != (l1.length : Int)) = true := bne_iff_ne.mpr c3
    have c3b2 : (l0.length == l1.length) = false := by first | simpa using c3 | (simp at c3 ⊢; omega)
    obtain rfl := Option.some.inj H
    go_enter Try.func27, Try.ntmps27
    go_wp2
    repeat (go_quiet (fail); try go_wp2)
    go_ret
    exact ⟨by first | rfl | (simp; done) | (simp [*]; done), by repeat (first | exact Drawn0.refl _ | apply Drawn0.step)⟩

end Go.Proofs.Ytoiaegbhnpddlaa.A
