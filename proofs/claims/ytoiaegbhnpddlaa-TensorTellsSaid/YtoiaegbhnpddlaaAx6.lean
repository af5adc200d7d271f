/- Lean functions that answer as the Go functions do, and the proofs that they do; no conditions. Written by this session's own driver: a scratch copy of the kit's print with the session's additions (wip/xprint). -/
import Derived.Test.YtoiaegbhnpddlaaAx0
import Derived.Test.YtoiaegbhnpddlaaAx1
import Derived.Test.YtoiaegbhnpddlaaAx2
import Derived.Test.YtoiaegbhnpddlaaAx4
import Derived.Test.YtoiaegbhnpddlaaAx5
namespace Go.Proofs.Ytoiaegbhnpddlaa.A
open Go.RowKit Go.Proofs.YtoiaegbhnpddlaaW.PrintWords Go.Proofs.YtoiaegbhnpddlaaW.PrintLast Go.Proofs.YtoiaegbhnpddlaaW.PrintMore
attribute [local go_sem] max2_int min2_int max_two min_two max_three min_three max_four min_four   -- for this text's walks alone
set_option linter.unusedVariables false
set_option linter.unusedSimpArgs false

/-! ### tensor_Spread: function 16 (given) -/
section
attribute [local go_sem] Oper.semAt_some
/-- All places, of m places from p on. -/
def fplaces (k : Nat) (s great : List Int) : Nat → Nat → Option (List Int)
 | 0, _ => some []
 | m + 1, p => (fplace k s great (p : Int)).bind fun a => (fplaces k s great m (p + 1)).map (a :: ·)
theorem fplaces_len {k : Nat} {s great : List Int} : ∀ {m p : Nat} {ats : List Int}, fplaces k s great m p = some ats → ats.length = m
 | 0, _, _, h => by cases h; rfl
 | m + 1, p, ats, h => by
  obtain ⟨a, _, h⟩ := Option.bind_eq_some_iff.mp h
  obtain ⟨xs, hx, rfl⟩ := Option.map_eq_some_iff.mp h
  simp [fplaces_len hx]
theorem fplaces_at {k : Nat} {s great : List Int} : ∀ {m p : Nat} {ats : List Int}, fplaces k s great m p = some ats → ∀ i, i < m → fplace k s great ((p + i : Nat) : Int) = some (rd ats (i : Int))
 | 0, _, _, _, i, hi => absurd hi (by omega)
 | m + 1, p, ats, h, i, hi => by
  obtain ⟨a, ha, h⟩ := Option.bind_eq_some_iff.mp h
  obtain ⟨xs, hx, rfl⟩ := Option.map_eq_some_iff.mp h
  cases i with
  | zero => simpa [rd] using ha
  | succ i =>
   have := fplaces_at hx i (by omega)
   rw [show p + (i + 1) = p + 1 + i by omega, this]
   simp [rd]
theorem fplaces_at0 {k N : Nat} {s great ats : List Int} (h : fplaces k s great N 0 = some ats) (p : Nat) (hp : p < N) : fplace k s great (p : Int) = some (rd ats (p : Int)) := by
 have := fplaces_at h p hp
 simpa using this
def tensor_Spread.f (k : Nat) (l0_0 l0_1 l1 : List Int) : Option (List Int × List Int × Int) :=
 (tensor_Check.f k l0_0 l0_1).bind fun ok => if ok = true then ((shape_Fits.f k l0_0 l1).bind fun fit => if fit = true then
  ((shape_Size.f k l1).bind fun n => (tensor_Full.f k l1 0).bind fun o => if o.2.2 = 0 ∧ 0 < n ∧ o.2.1.length = n.toNat ∧ n < 17592186044416 ∧ l1.length < 17592186044416 ∧ l0_0.length ≤ l1.length then
   ((fplaces k l0_0 l1 n.toNat 0).bind fun ats => if (ats.all fun a => decide (0 ≤ a ∧ a < (l0_1.length : Int))) = true then some (o.1, ats.map (rd l0_1), 0) else none) else none) else some ([], [], 20)) else some ([], [], 30)
theorem sp_at {k N p : Nat} {s great ats l : List Int} (h : fplaces k s great N 0 = some ats) (ha : (ats.all fun a => decide (0 ≤ a ∧ a < (l.length : Int))) = true) (hp : p < N) : 0 ≤ rd ats (p : Int) ∧ rd ats (p : Int) < (l.length : Int) := by
 have hl := fplaces_len h
 have := List.all_eq_true.mp ha (rd ats (p : Int)) (by simp [rd, show p < ats.length by omega])
 simpa using this
/-- What a round does. -/
def spPut (l0_1 ats : List Int) (N : Nat) (D : List Int) (x : Fin N) : List Int := D.set (x : Nat) (rd l0_1 (rd ats ((x : Nat) : Int)))
theorem sp_get {l ats D0 : List Int} {N : Nat} (hD : D0.length = N) (ha : ats.length = N) : ∀ (p : Nat), p ≤ N → ∀ i : Nat, (((List.finRange N).take p).foldl (spPut l ats N) D0)[i]? = if i < p then (ats.map (rd l))[i]? else D0[i]?
 | 0, _, i => by simp
 | p + 1, hp, i => by
  have ih := sp_get (l := l) hD ha p (by omega)
  have hlen : (((List.finRange N).take p).foldl (spPut l ats N) D0).length = N := by
   have h1 : ∀ (xs : List (Fin N)) (D : List Int), (xs.foldl (spPut l ats N) D).length = D.length := by
    intro xs
    induction xs with
    | nil => intro D; rfl
    | cons x xs ihx => intro D; rw [List.foldl_cons, ihx]; simp [spPut]
   rw [h1, hD]
  rw [take_fin hp, List.foldl_append]
  simp only [List.foldl_cons, List.foldl_nil, spPut]
  rw [List.getElem?_set, ih i]
  by_cases e : p = i
  ·subst e
   simp [hlen, show p < N by omega, rd, ha]
  ·rw [if_neg e]
   by_cases h2 : i < p
   ·rw [if_pos h2, if_pos (by omega)]
   ·rw [if_neg h2, if_neg (by omega)]
theorem sp_all {l ats D0 : List Int} {N : Nat} (hD : D0.length = N) (ha : ats.length = N) : (List.finRange N).foldl (spPut l ats N) D0 = ats.map (rd l) := by
 have h := sp_get (l := l) hD ha N (Nat.le_refl _)
 rw [List.take_of_length_le (by simp)] at h
 apply List.ext_getElem?
 intro i
 rw [h i]
 by_cases h2 : i < N
 ·rw [if_pos h2]
 ·rw [if_neg h2, List.getElem?_eq_none (by omega), List.getElem?_eq_none (by simp; omega)]
/-- What is known between two rounds. -/
structure SpInv (w0 : World) (B tb rb ob d : Nat) (A0 : Option Addr) (c0 : Nat) (l0 : List Int) (A1 : Option Addr) (c1 : Nat) (l1 : List Int) (v0 : Value) (cd : Nat) (s : List Int) (N : Nat) (D : List Int) (W : World) : Prop where
 bel : Below w0.heap.size w0 W
 bt : W.heap[tb]? = some (.cells #[.slice A0 l0.length c0, .slice A1 l1.length c1] 24 (0, 0))
 br : W.heap[rb]? = some (.cells #[.slice none 0 0, .slice none 0 0] 24 (0, 0))
 bo : W.heap[ob]? = some (.cells #[v0, .slice (some ⟨d, 0, none⟩) N cd] 24 (0, 0))
 sh : Kd.R (Kd.int .i64) 3 W B (fun k_ => k_ ≠ d) v0 s
 da : Kd.R (Kd.int .i64) 3 W B (fun k_ => some k_ ≠ (v0 : Value).ownBlock) (.slice (some ⟨d, 0, none⟩) N cd) D
theorem block_grown {W W' : World} {row : Option Nat} {k : Nat} {o : Obj} (h : W.heap[k]? = some o) (ho : o.isCells = true) (hg : W.grownBy W' row) (hr : ∀ r, row = some r → ∃ o : Obj, W.heap[r]? = some o ∧ o.isCells = false) : W'.heap[k]? = some o :=
 (grownBy_keeps_cells hg hr h ho).trans h
theorem R_grown {W W' : World} {row : Option Nat} {B : Nat} {ok : Nat → Prop} {v : Value} {xs : List Int} (h : Kd.R (Kd.int .i64) 3 W B ok v xs) (hg : W.grownBy W' row) (hr : ∀ r, row = some r → ∃ o : Obj, W.heap[r]? = some o ∧ o.isCells = false) : Kd.R (Kd.int .i64) 3 W' B ok v xs := by
 refine Kd.R_of_own (own_other (Kd.own_of_R h) hg ?_) h.1
 cases hv : v.ownBlock with
 | none => exact .inl rfl
 | some k =>
  refine .inr (fun e => ?_)
  obtain ⟨cs, hc⟩ := own_typed (Kd.own_of_R h) k hv
  obtain ⟨o, ho, hf⟩ := hr k e.symm
  rw [hc] at ho
  cases ho
  cases hf
theorem SpInv.grown {w0 W W' : World} {B tb rb ob d : Nat} {A0 : Option Addr} {c0 : Nat} {l0 : List Int} {A1 : Option Addr} {c1 : Nat} {l1 : List Int} {v0 : Value} {cd : Nat} {s : List Int} {N : Nat} {D : List Int} {row : Option Nat} (h : SpInv w0 B tb rb ob d A0 c0 l0 A1 c1 l1 v0 cd s N D W) (hg : W.grownBy W' row) (hr : ∀ r, row = some r → w0.heap.size ≤ r ∧ ∃ o : Obj, W.heap[r]? = some o ∧ o.isCells = false) : SpInv w0 B tb rb ob d A0 c0 l0 A1 c1 l1 v0 cd s N D W' :=
 have hr2 : ∀ r, row = some r → ∃ o : Obj, W.heap[r]? = some o ∧ o.isCells = false := fun r e => (hr r e).2
 ⟨h.bel.grown hg h.bel.size (fun k e => (hr k e).1), block_grown h.bt rfl hg hr2, block_grown h.br rfl hg hr2, block_grown h.bo rfl hg hr2, R_grown h.sh hg hr2, R_grown h.da hg hr2⟩
theorem SpInv.put {w0 W : World} {B tb rb ob d : Nat} {A0 : Option Addr} {c0 : Nat} {l0 : List Int} {A1 : Option Addr} {c1 : Nat} {l1 : List Int} {v0 : Value} {cd : Nat} {s : List Int} {N : Nat} {D : List Int} (h : SpInv w0 B tb rb ob d A0 c0 l0 A1 c1 l1 v0 cd s N D W) (hd : w0.heap.size ≤ d) (i : Nat) (x : Int) : SpInv w0 B tb rb ob d A0 c0 l0 A1 c1 l1 v0 cd s N (D.set i x) (W.setCell ⟨d, i, none⟩ (.int .i64 x)) := by
 have hp := Kd.R_putg h.da (i : Int) x
 simp only [Int.toNat_natCast] at hp
 obtain ⟨hda, hg⟩ := hp
 obtain ⟨cs, hc⟩ := own_typed (Kd.own_of_R h.da) d (by simp [Value.ownBlock])
 have other : ∀ {k : Nat} {cs' : Array Value}, W.heap[k]? = some (.cells cs' 24 (0, 0)) → (W.setCell ⟨d, i, none⟩ (.int .i64 x)).heap[k]? = some (.cells cs' 24 (0, 0)) := by
  intro k cs' hk
  refine (hg.block k (Array.getElem?_eq_some_iff.1 hk).1 (fun e => ?_)).trans hk
  injection e with e
  subst e
  rw [hc] at hk
  injection hk with hk
  injection hk with _ h24 _
  exact absurd h24 (by decide)
 refine ⟨h.bel.setCell (p := ⟨d, i, none⟩) hd _, other h.bt, other h.br, other h.bo, ?_, hda⟩
 refine Kd.R_of_own (own_other (Kd.own_of_R h.sh) hg ?_) h.sh.1
 cases hv : v0.ownBlock with
 | none => exact .inl rfl
 | some k => exact .inr (fun e => by injection e with e; exact h.sh.1 k hv e)
theorem SpInv.drew {w0 W : World} {B tb rb ob d : Nat} {A0 : Option Addr} {c0 : Nat} {l0 : List Int} {A1 : Option Addr} {c1 : Nat} {l1 : List Int} {v0 : Value} {cd : Nat} {s : List Int} {N : Nat} {D : List Int} (h : SpInv w0 B tb rb ob d A0 c0 l0 A1 c1 l1 v0 cd s N D W) : SpInv w0 B tb rb ob d A0 c0 l0 A1 c1 l1 v0 cd s N D W.drew :=
 h.grown (row := none) ⟨rfl, rfl, rfl, Nat.le_refl _, fun _ _ _ => rfl⟩ (fun r e => by cases e)
theorem Frk.refl (n d : Nat) (W : World) : Frk n d W W := ⟨Below.refl _ _, fun _ _ h _ _ => h⟩
theorem Frk.trans {n d : Nat} {A B C : World} (h : Frk n d A B) (k : Frk n d B C) : Frk n d A C := ⟨h.bel.trans k.bel, fun i o hi ho hd => k.oth i o (h.oth i o hi ho hd) ho hd⟩
theorem Frk.set {n d : Nat} (W : World) (hd : n ≤ d) (i : Nat) (v : Value) : Frk n d W (W.setCell ⟨d, i, none⟩ v) :=
 ⟨(Below.refl _ _).setCell (p := ⟨d, i, none⟩) hd _, fun k o hk _ hne => (Below.heap_setCell W ⟨d, i, none⟩ v k hne).trans hk⟩
theorem Frk.drew (n d : Nat) (W : World) : Frk n d W W.drew := ⟨below_drew1 (Below.refl _ _), fun _ _ h _ _ => h⟩
theorem Frk.putObj {n d : Nat} (W : World) (l : Nat) (o o' : Obj) (hl : n ≤ l) (h : W.heap[l]? = some o) (ho : o.isCells = false) : Frk n d W (W.putObj l o') :=
 ⟨(Below.refl n W).grown (grownBy_putObj' W l o') (by have := (Array.getElem?_eq_some_iff.1 h).1; omega) (fun k e => by cases e; omega), fun k o2 hk hc _ => by
  by_cases e : k = l
  ·subst e; rw [h] at hk; cases hk; rw [ho] at hc; cases hc
  ·exact (World.putObj_heap_other e).trans hk⟩
/-- No operation is a defer statement. -/
def noDefer (ops : Array Oper) : Bool := ops.all fun o => match o.op with
 | .defer _ => false
 | _ => true
theorem noDefer_at {ops : Array Oper} (h : noDefer ops = true) {i : Nat} {o : Oper} (ho : ops[i]? = some o) (c : Call) : o.op ≠ .defer c := by
 obtain ⟨hi, he⟩ := Array.getElem?_eq_some_iff.1 ho
 have := (Array.all_eq_true.mp h) i hi
 rw [he] at this
 intro e
 rw [e] at this
 cases this
theorem rows_wide {P : Program} {n : Nat} {row : String} {args : Array Value} {w : World} {R : Value → World → Prop} (h : Rows P row args w R) : RowsIn Fence.wide n P row args w R :=
 fun c cs _ => let ⟨v, w', r, s⟩ := h c cs; ⟨v, w', r, stepsIn_wide.2 s⟩
theorem oper_wide {P : Program} {n : Nat} {o : Oper} {a : Act} {w : World} {K : Act → World → Prop} {Q : Exit → Act → World → Prop} (h : Oper.wp P o a w K Q) : Oper.wpIn Fence.wide n P o a w K Q := by
 refine ⟨fun _ _ => trivial, ?_⟩
 unfold Oper.wp at h
 rw [show Fence.wide.round = none from rfl, Oper.semAt_none]
 generalize (execOp a.eval o).run P w = r at h
 cases r with
 | ok x w' =>
  cases x <;> simp only [Oper.upon, Oper.uponIn] at h ⊢ <;>
   first
    | exact h
    | exact ⟨fun hh => by simp [Fence.wide] at hh, callsIn_wide.2 h⟩
    | exact ⟨fun hh => by simp [Fence.wide] at hh, rows_wide h⟩
 | halt x w' => cases x <;> simp only [Oper.upon, Oper.uponIn] at h ⊢ <;> exact h
theorem oper_round {P : Program} {n l : Nat} {o : Oper} {a : Act} {w : World} {K : Act → World → Prop} {Q : Exit → Act → World → Prop} (hd : ∀ c, o.op ≠ .defer c) (h : Oper.wpIn Fence.wide n P o a w K Q) : Oper.wpIn (Fence.wide.inRound l) n P o a w K Q := by
 unfold Oper.wpIn at *
 rw [show (Fence.wide.inRound l).round = some l from rfl, Oper.semAt_some l _ _ hd]
 exact h
theorem any_round {P : Program} {n l : Nat} {md : Region.Mode} {ops : Array Oper} {Q : Exit → Act → World → Prop} (hnd : noDefer ops = true) (hlo : ¬ LetsOut Q) : ∀ (fuel : Nat) (listed : Array Bool) (a : Act) (w : World), wpAny P md ops Q fuel listed a w → wpAnyIn (Fence.wide.inRound l) n P md ops Q fuel listed a w
 | 0, _, _, _, h => h
 | fuel + 1, listed, a, w, h => ⟨h.1, fun i hi => by
  have h2 := wpOp_mono (K' := wpAnyIn (Fence.wide.inRound l) n P md ops Q fuel (listed.setIfInBounds i true)) (fun a' w' h' => any_round hnd hlo fuel _ a' w' h') (h.2 i hi)
  unfold wpOp at h2
  unfold wpOpIn
  split
  ·simpa [*] using h2
  ·rename_i o ho
   simp only [ho] at h2
   split
   ·rename_i hw
    simp only [hw, if_true] at h2
    rcases h2 with h2 | h2
    ·exact oper_round (noDefer_at hnd ho) (oper_wide h2)
    ·exact absurd h2.2 hlo
   ·rename_i hw
    simp only [hw] at h2
    exact ⟨fun _ _ => trivial, h2⟩⟩
/-- A region that draws its order, in a round. -/
theorem round_start {P : Program} {n l id m : Nat} {ops : Array Oper} {Q : Exit → Act → World → Prop} {a : Act} {w : World} {S : World → Prop} {ds : List Nat} (lb : Array Bool) (hm : P.follows .mixedOrders = true) (hnd : noDefer ops = true) (hlo : ¬ LetsOut Q) (hn : ops.size = m) (hl : Array.replicate m false = lb) (hS : S w.drew)
  (h : S w.drew → wpAnyLast P .any ops Q S ds m lb a w.drew) : (Code.region id ops true).wpIn (Fence.wide.inRound l) n P Q a w := by
 subst hn
 subst hl
 exact wpIn_region_any hm (any_round hnd hlo _ _ _ _ (wpAny_of_last _ _ _ _ (h hS)))
/-- The law, the frame behind the assignments found by the walk. -/
theorem range_walk {α : Type} {n : Nat} {P : Program} {g : Operand} {ps : Array Tmp} {assign body : Code} {Q : Exit → Act → World → Prop} {a : Act} {w : World}
  (h1 : 1 ≤ n) {gf : Nat} {lb : Array Value} (hg : a.eval g = .func (.func gf) #[] lb) (eg : ∀ args w, (callFunc gf args).run P w = .ok (.enter gf args) w)
  {encs : α → Array Value} {Kp : World → World → Prop} {S Sp : List α → Prop} {N : Nat} (hseq : SeqStopsK Fence.wide (n - 1) P gf lb encs Kp S Sp N w)
  (hKt : ∀ {A B C : World}, Kp A B → Kp B C → Kp A C) (hKb : ∀ (W : World) (l : Nat) (o o' : Obj), w.heap.size ≤ l → W.heap[l]? = some o → o.isCells = false → o.isWalk = false → Kp W (W.putObj l o')) (hps : ∀ x, (encs x).size = ps.size)
  (I : List α → World → Prop) (Ix : Code → List α → World → Prop) (hI : OwnFrom w.heap.size I) (hIx : ∀ c, OwnFrom w.heap.size (Ix c)) (h0 : I [] w)
  (hrounds : ∃ a₁ : α → Act, (∀ (l : Nat) (x : α) (W : World) (K : Act → World → Prop), K (a₁ x) W →
   assign.wpIn (Fence.wide.inRound l) (n - 1 - 1) P (Exit.then K (fun _ _ _ => False)) { tmps := (ps.zip (encs x)).foldl (fun t (p, v) => t.setIfInBounds p v) a.tmps, defers := [] } W) ∧
   (∀ (l : Nat) (pre : List α) (x : α) (W : World), I pre W → pre.length < N → body.wpIn (Fence.wide.inRound l) (n - 1 - 1) P (ownPostG w.heap.size Kp I Ix (pre ++ [x]) W) (a₁ x) W))
  (hdone : ∀ (D : Nat) (xs : List α) (W : World), w.heap.size ≤ D → S xs → I xs W → W.heap[D]? = some (.deferred (some [])) → Q .normal { a with defers := { target := .collected D, args := #[] } :: a.defers } W)
  (hstop : ∀ (D : Nat) (c : Code) (pre : List α) (W : World), w.heap.size ≤ D → Sp pre → Ix c pre W → W.heap[D]? = some (.deferred (some [])) → c.wpIn Fence.wide n P Q { a with defers := { target := .collected D, args := #[] } :: a.defers } W) :
  (Code.rangeFunc g ps assign body).wp P Q a w := by
 obtain ⟨a₁, ha, hb⟩ := hrounds
 exact (wpIn_wide (n := n)).1 (wpIn_rangeFunc_ownG rfl h1 hg trivial eg hseq hKt hKb (Below.refl _ _) hps I Ix hI hIx h0 a₁ ha hb hdone hstop)
set_option maxHeartbeats 8000000 in
set_option maxRecDepth 100000 in
theorem tensor_Spread.calls (k : Nat) (A0_0 : Option Addr) (c0_0 : Nat) (l0_0 : List Int) (A0_1 : Option Addr) (c0_1 : Nat) (l0_1 : List Int) (A1 : Option Addr) (c1 : Nat) (l1 : List Int) (r1 r2 : List Int) (r3 : Int) (w : World) (hr0_0 : Kd.C (Kd.int .i64) w A0_0 l0_0.length l0_0) (hc0_0 : l0_0.length ≤ c0_0) (hr0_1 : Kd.C (Kd.int .i64) w A0_1 l0_1.length l0_1) (hc0_1 : l0_1.length ≤ c0_1) (hr1 : Kd.C (Kd.int .i64) w A1 l1.length l1) (hc1 : l1.length ≤ c1) (h : tensor_Spread.f k l0_0 l0_1 l1 = some (r1, r2, r3)) :
  Calls Try.prog 16 #[.agg #[.slice A0_0 l0_0.length c0_0, .slice A0_1 l0_1.length c0_1], .slice A1 l1.length c1] w fun e w' => ∃ v0_ v1_ : Value, e = .returned (.tuple #[.agg #[v0_, v1_], .int .i64 r3]) ∧ Kd.R (Kd.int .i64) 3 w' w.heap.size (fun k_ => some k_ ≠ (v1_ : Value).ownBlock) v0_ r1 ∧ Kd.R (Kd.int .i64) 3 w' w.heap.size (fun k_ => some k_ ≠ (v0_ : Value).ownBlock) v1_ r2 ∧ Below w.heap.size w w' := by
 unfold tensor_Spread.f at h
 have hu24 := Try.underlying24
 have HR0 := Aside0.mk hr0_0
 have HC0 := Aside0.mk hc0_0
 have HR1 := Aside0.mk hr0_1
 have HC1 := Aside0.mk hc0_1
 have HRs := Aside0.mk hr1
 have HCs := Aside0.mk hc1
 clear hr0_0 hc0_0 hr0_1 hc0_1 hr1 hc1
 obtain ⟨ok, hck, h'⟩ := Option.bind_eq_some_iff.mp h
 clear h
 have HCK := Aside0.mk hck
 clear hck
 refine (callsIn_wide (n := 3)).1 (callsIn_of_wp_marks Try.func16 rfl trivial ?_)
 simp only [Try.ntmps16, List.size_toArray, List.length_cons, List.length_nil, Nat.reduceAdd, Nat.reduceSub, Array.replicate_succ, Array.replicate_zero, List.push_toArray, List.append_toArray, List.nil_append, List.cons_append]
 refine (wpIn_wide (n := 3)).2 ?_
 obtain ⟨Q, hQ⟩ : ∃ Q, Q = bodyPostM Fence.wide 3 Try.prog Try.f16 (fun e w' => ∃ v0_ v1_ : Value, e = .returned (.tuple #[.agg #[v0_, v1_], .int .i64 r3]) ∧ Kd.R (Kd.int .i64) 3 w' w.heap.size (fun k_ => some k_ ≠ (v1_ : Value).ownBlock) v0_ r1 ∧ Kd.R (Kd.int .i64) 3 w' w.heap.size (fun k_ => some k_ ≠ (v0_ : Value).ownBlock) v1_ r2 ∧ Below w.heap.size w w') := ⟨_, rfl⟩
 rw [← hQ]
 have HQ := Aside0.mk hQ
 clear hQ
 obtain ⟨o1, ho1⟩ : ∃ o1 : Obj, o1 = .cells #[.slice A0_0 l0_0.length c0_0, .slice A0_1 l0_1.length c0_1] 24 := ⟨_, rfl⟩
 obtain ⟨o2, ho2⟩ : ∃ o2 : Obj, o2 = .cells #[.slice none 0 0, .slice none 0 0] 24 := ⟨_, rfl⟩
 have BT := Aside0.mk (show ((w.alloc o1).alloc o2).heap[w.heap.size]? = some o1 from blk_alloc (blk_new w o1) o2)
 have BR := Aside0.mk (show ((w.alloc o1).alloc o2).heap[w.heap.size + 1]? = some o2 from by have := blk_new (w.alloc o1) o2; rwa [World.size_alloc] at this)
 have HB := Aside0.mk (show Below w.heap.size w ((w.alloc o1).alloc o2) from below_alloc (below_alloc (Below.refl _ _) _) _)
 rw [ho1, ho2] at HB
 rw [ho1, ho2] at BT
 rw [ho1, ho2] at BR
 clear ho1 ho2 o1 o2
 go_wp2_with fail
 refine (tensor_Check.calls k A0_0 c0_0 l0_0 A0_1 c0_1 l0_1 ok _ (Kd.C_below HR0.out HB.out) HC0.out (Kd.C_below HR1.out HB.out) HC1.out HCK.out).mono ?_
 rintro e w3 ⟨rfl, hb3⟩
 replace BT := Aside0.mk (blk_below BT.out hb3)
 replace BR := Aside0.mk (blk_below BR.out hb3)
 replace HB := Aside0.mk (below_step HB.out hb3)
 clear hb3
 have y0 := blk_frozen BR.out 0
 have y1 := blk_frozen BR.out 1
 have x0 : w3.cell? ⟨w.heap.size + 1, 0, none⟩ = some (.slice none 0 0) := (blk_cell BR.out 0).trans rfl
 have x1 : w3.cell? ⟨w.heap.size + 1, 1, none⟩ = some (.slice none 0 0) := (blk_cell BR.out 1).trans rfl
 cases ok with
 | false =>
  simp only [if_false, Bool.false_eq_true] at h'
  have h2 := Option.some.inj h'
  simp only [Prod.mk.injEq] at h2
  obtain ⟨rfl, rfl, rfl⟩ := h2
  clear h'
  go_wp2_with fail
  rw [HQ.out]
  refine ⟨_, results_ct rfl _ _ (w.heap.size + 1) 24 #[.slice none 0 0, .slice none 0 0] (0, 0) _ rfl (blk_put (cs := #[.slice none 0 0, .slice none 0 0]) (blk_put (cs := #[.slice none 0 0, .slice none 0 0]) BR.out 0 _ rfl) 1 _ rfl) Try.underlying24 rfl (by kernel_rfl), ?_⟩
  exact ⟨_, _, rfl, Kd.R_nil _ _ _ _ _, Kd.R_nil _ _ _ _ _, (HB.out.setCell (p := ⟨w.heap.size + 1, 0, none⟩) (Nat.le_succ _) _).setCell (p := ⟨w.heap.size + 1, 1, none⟩) (Nat.le_succ _) _⟩
 | true =>
  simp only [if_true] at h'
  obtain ⟨fit, hfit, h⟩ := Option.bind_eq_some_iff.mp h'
  clear h'
  have HFit := Aside0.mk hfit
  clear hfit
  have z0 : w3.cell? ⟨w.heap.size, 0, none⟩ = some (.slice A0_0 l0_0.length c0_0) := (blk_cell BT.out 0).trans rfl
  have H := Aside0.mk h
  clear h
  go_wp2_with fail
  refine (shape_Fits.calls k A0_0 c0_0 l0_0 A1 c1 l1 fit _ (Kd.C_below HR0.out HB.out) HC0.out (Kd.C_below HRs.out HB.out) HCs.out HFit.out).mono ?_
  rintro e w4 ⟨rfl, hb4⟩
  replace BT := Aside0.mk (blk_below BT.out hb4)
  replace BR := Aside0.mk (blk_below BR.out hb4)
  replace HB := Aside0.mk (below_step HB.out hb4)
  clear hb4 y0 y1 x0 x1 z0
  have h' := H.out
  clear H
  cases fit with
  | false =>
   have y0 := blk_frozen BR.out 0
   have y1 := blk_frozen BR.out 1
   have x0 : w4.cell? ⟨w.heap.size + 1, 0, none⟩ = some (.slice none 0 0) := (blk_cell BR.out 0).trans rfl
   have x1 : w4.cell? ⟨w.heap.size + 1, 1, none⟩ = some (.slice none 0 0) := (blk_cell BR.out 1).trans rfl
   simp only [if_false, Bool.false_eq_true] at h'
   have h2 := Option.some.inj h'
   simp only [Prod.mk.injEq] at h2
   obtain ⟨rfl, rfl, rfl⟩ := h2
   clear h'
   go_wp2_with fail
   rw [HQ.out]
   refine ⟨_, results_ct rfl _ _ (w.heap.size + 1) 24 #[.slice none 0 0, .slice none 0 0] (0, 0) _ rfl (blk_put (cs := #[.slice none 0 0, .slice none 0 0]) (blk_put (cs := #[.slice none 0 0, .slice none 0 0]) BR.out 0 _ rfl) 1 _ rfl) Try.underlying24 rfl (by kernel_rfl), ?_⟩
   exact ⟨_, _, rfl, Kd.R_nil _ _ _ _ _, Kd.R_nil _ _ _ _ _, (HB.out.setCell (p := ⟨w.heap.size + 1, 0, none⟩) (Nat.le_succ _) _).setCell (p := ⟨w.heap.size + 1, 1, none⟩) (Nat.le_succ _) _⟩
  | true =>
   simp only [if_true] at h'
   obtain ⟨n, hn, h1⟩ := Option.bind_eq_some_iff.mp h'
   clear h'
   obtain ⟨⟨s', D0, e'⟩, ho, h2⟩ := Option.bind_eq_some_iff.mp h1
   clear h1
   simp only at h2
   split at h2
   case isFalse => cases h2
   case isTrue hcs =>
   obtain ⟨he0, hn0, hlen, hnl, hsl, hll⟩ := hcs
   subst he0
   obtain ⟨ats, hats, h3⟩ := Option.bind_eq_some_iff.mp h2
   clear h2
   split at h3
   case isFalse => cases h3
   case isTrue hall =>
   have h4 := Option.some.inj h3
   simp only [Prod.mk.injEq] at h4
   obtain ⟨rfl, rfl, rfl⟩ := h4
   clear h3
   obtain ⟨N, hN⟩ : ∃ N : Nat, n = (N : Int) := ⟨n.toNat, by omega⟩
   subst hN
   simp only [Int.toNat_natCast] at hlen hats
   have HN := Aside0.mk hn
   have HO := Aside0.mk ho
   have HC := Aside0.mk (show 0 < N ∧ D0.length = N ∧ N < 17592186044416 ∧ l1.length < 17592186044416 ∧ l0_0.length ≤ l1.length from ⟨by omega, hlen, by omega, hsl, hll⟩)
   have HA := Aside0.mk hats
   have HAll := Aside0.mk hall
   clear hn ho hn0 hlen hnl hsl hll hats hall
   go_wp2_with fail
   refine (tensor_Full.calls k A1 c1 l1 0 s' D0 0 _ (Kd.C_below HRs.out HB.out) HCs.out HO.out).mono ?_
   rintro e w5 ⟨v0, v1, rfl, hR0, hR1, hb5⟩
   obtain ⟨d, cd, rfl, hd1, hd2, _⟩ := Kd.R_form hR1 (by have := HC.out.1; have := HC.out.2.1; omega)
   rw [HC.out.2.1] at hR1 hR0 ⊢
   obtain ⟨A2, c2, rfl⟩ := Kd.R_slice hR0
   have HL4 := Aside0.mk (blk_lt BR.out)
   replace BT := Aside0.mk (blk_below BT.out hb5)
   replace BR := Aside0.mk (blk_below BR.out hb5)
   replace HB := Aside0.mk (below_step HB.out hb5)
   have HD := Aside0.mk (show w4.heap.size ≤ d ∧ d < w5.heap.size from ⟨hd1, hd2⟩)
   have HS0 := Aside0.mk (Kd.R_mono (ok' := fun k_ => k_ ≠ d) hR0 (fun k_ hk e => hk (by rw [e]; rfl)))
   have HD0 := Aside0.mk hR1
   clear hR0 hR1 hb5 hd1 hd2
   have z0 : (w5.alloc (.cells #[.slice A2 s'.length c2, .slice (some ⟨d, 0, none⟩) N cd] 24)).cell? ⟨w.heap.size, 0, none⟩ = some (.slice A0_0 l0_0.length c0_0) := (blk_cell (blk_alloc BT.out _) 0).trans rfl
   have BO := Aside0.mk (blk_new w5 (.cells #[.slice A2 s'.length c2, .slice (some ⟨d, 0, none⟩) N cd] 24))
   replace BT := Aside0.mk (blk_alloc BT.out (.cells #[.slice A2 s'.length c2, .slice (some ⟨d, 0, none⟩) N cd] 24))
   replace BR := Aside0.mk (blk_alloc BR.out (.cells #[.slice A2 s'.length c2, .slice (some ⟨d, 0, none⟩) N cd] 24))
   have HB5 := HB
   replace HB := Aside0.mk (below_alloc HB.out (.cells #[.slice A2 s'.length c2, .slice (some ⟨d, 0, none⟩) N cd] 24))
   have hg6 := World.grownBy_alloc w5 (.cells #[.slice A2 s'.length c2, .slice (some ⟨d, 0, none⟩) N cd] 24) none
   replace HS0 := Aside0.mk (R_grown HS0.out hg6 (fun r e => by cases e))
   replace HD0 := Aside0.mk (R_grown HD0.out hg6 (fun r e => by cases e))
   clear hg6
   go_wp2_with fail
   obtain ⟨W6, hW6⟩ : ∃ W6, W6 = w5.alloc (.cells #[.slice A2 s'.length c2, .slice (some ⟨d, 0, none⟩) N cd] 24) := ⟨_, rfl⟩
   have HS6 := Aside0.mk (show W6.heap.size = w5.heap.size + 1 by rw [hW6, World.size_alloc])
   rw [← hW6] at BO BT BR HB HS0 HD0 ⊢
   clear hW6 z0
   refine (tensor_from.calls A0_0 c0_0 l0_0.length A1 c1 l1.length W6).mono ?_
   rintro e w7 ⟨rfl, hw7⟩
   have HI0 : SpInv w w4.heap.size w.heap.size (w.heap.size + 1) w5.heap.size d A0_0 c0_0 l0_0 A0_1 c0_1 l0_1 (.slice A2 s'.length c2) cd s' N D0 W6 := ⟨HB.out, BT.out, BR.out, BO.out, HS0.out, HD0.out⟩
   have hg7 : W6.grownBy w7 none := by rw [hw7]; exact (World.grownBy_alloc W6 _ none).trans (World.grownBy_alloc _ _ none)
   have HI7 := Aside0.mk (HI0.grown hg7 (fun r e => by cases e))
   have HF := Aside0.mk (show FrEnv w d l0_0 l1 A0_0 A1 c0_0 c1 W6.heap.size (W6.heap.size + 1) w7 from ⟨HI7.out.bel, HR0.out, HRs.out, HC0.out, HCs.out, HC.out.2.2.2.2, HC.out.2.2.2.1, by rw [hw7]; exact blk_alloc (blk_new W6 _) _, by rw [hw7]; have := blk_new (W6.alloc (.cells #[.slice A0_0 l0_0.length c0_0] 22)) (.cells #[.slice A1 l1.length c1] 22); rwa [World.size_alloc] at this, by have := HD.out; have := HS6.out; omega, by have := HD.out; have := HS6.out; omega, by have := HD.out; have := HS6.out; have := hg7.size; omega, by have := HD.out; have := HL4.out; omega⟩)
   have HS7 := Aside0.mk (show W6.heap.size + 1 < w7.heap.size by rw [hw7]; simp)
   clear HI0 hg7 hw7 BO BT BR HB HS0 HD0 HB5
   go_wp2_with fail
   refine range_walk (n := 3) (gf := 45) (lb := #[.pointer (some ⟨W6.heap.size + 1, 0, none⟩), .pointer (some ⟨W6.heap.size, 0, none⟩)]) (by omega) rfl (enters_of Try.func45 (by kernel_rfl) rfl)
    (tensor_from1.seq k 2 N w w7 d l0_0 l1 A0_0 A1 c0_0 c1 W6.heap.size (W6.heap.size + 1) HF.out (by have := HS7.out; omega) HS7.out HN.out HC.out.2.2.1 ats (fplaces_at0 HA.out))
    (fun h k => h.trans k) (fun W l o o' hl ho hc _ => Frk.putObj W l o o' (by have := HF.out.bel.size; omega) ho hc) (fun _ => rfl)
    (fun pre W => SpInv w w4.heap.size w.heap.size (w.heap.size + 1) w5.heap.size d A0_0 c0_0 l0_0 A0_1 c0_1 l0_1 (.slice A2 s'.length c2) cd s' N (pre.foldl (spPut l0_1 ats N) D0) W)
    (fun _ _ _ => False)
    (fun pre W W' row h hg hr => h.grown hg (fun r e => ⟨Nat.le_trans HF.out.bel.size (hr r e).1, (hr r e).2⟩)) (fun _ _ _ _ _ hs _ _ => hs) HI7.out ?rounds ?done ?stop
   case rounds =>
    apply Exists.intro
    refine ⟨?assign, ?body⟩
    case assign =>
     intro l x W K hK
     gi_wp2
     exact hK
    case body =>
     rintro l pre ⟨p, hp⟩ W hi hlen
     have HI := Aside0.mk hi
     clear hi hlen
     have hat := sp_at HA.out HAll.out hp
     obtain ⟨a, ha⟩ : ∃ a, a = rd ats (p : Int) := ⟨_, rfl⟩
     simp only
     rw [← ha] at hat ⊢
     have HAt := Aside0.mk ha
     clear ha
     obtain ⟨ad, hA, hc⟩ := Kd.at_int (Kd.C_below HR1.out HI.out.bel) a hat.1 hat.2
     have q1 := eq_true hat.1
     have q2 := eq_true hat.2
     have q3 : (0 ≤ (p : Int)) = True := eq_true (by omega)
     have q4 : ((p : Int) < (N : Int)) = True := eq_true (by omega)
     have q5 : (p < N) = True := eq_true hp
     obtain ⟨x1, y1⟩ := Kd.R_celln 0 HI.out.da (p : Int) (by omega) (by omega)
     simp only [Int.toNat_natCast] at x1 y1
     have y2 : W.drew.frozen? ⟨d, p, none⟩ = false := y1
     have x1' : W.drew.cell? ⟨d, p, none⟩ = some (.int .i64 (rdOf 0 (pre.foldl (spPut l0_1 ats N) D0) (p : Int))) := x1
     have x2 : W.cell? ⟨w5.heap.size, 1, none⟩ = some (.slice (some ⟨d, 0, none⟩) N cd) := (blk_cell HI.out.bo 1).trans rfl
     have x3 : W.cell? ⟨w.heap.size, 1, none⟩ = some (.slice A0_1 l0_1.length c0_1) := (blk_cell HI.out.bt 1).trans rfl
     rw [hA] at x3
     have HHp := Aside0.mk hp
     have HHA := Aside0.mk hA
     clear hat hA
     have hmx : Try.prog.follows .mixedOrders = true := by kernel_rfl
     gi_wp2
     refine round_start (m := 10) (S := fun w' => w'.cell? ⟨w5.heap.size, 1, none⟩ = some (.slice (some ⟨d, 0, none⟩) N cd) ∧ w'.cell? ⟨w.heap.size, 1, none⟩ = some (.slice (some ad) l0_1.length c0_1) ∧ w'.cell? (ad.add a.toNat) = some (.int .i64 (rd l0_1 a))) (ds := [9]) #[false, false, false, false, false, false, false, false, false, false] hmx (by kernel_rfl) ?lo rfl rfl ⟨x2, x3, hc⟩ (fun hHeld => ?_)
     case lo => rintro ⟨_, _, h⟩; exact (h : False)
     refine pure_ (i := 0) (N := some 33) (v := ?_) (a' := ?_) #[true, false, false, false, false, false, false, false, false, false] rfl rfl (by kernel_rfl) (fun _ _ _ h => h) (Or.inl ⟨by rfl, ?_⟩) ?_ ?_
     rotate_left
     ·intro w'
      go_simp
      with_reducible rfl
     rotate_left
     ·simp only [Act.put, sA_, sB_, sC_, i64_w, i32_w]
      rfl
     refine pure_ (i := 2) (N := some 35) (v := ?_) (a' := ?_) #[true, false, true, false, false, false, false, false, false, false] rfl rfl (by kernel_rfl) (fun _ _ _ h => h) (Or.inl ⟨by rfl, ?_⟩) ?_ ?_
     rotate_left
     ·intro w'
      go_simp
      with_reducible rfl
     rotate_left
     ·simp only [Act.put, sA_, sB_, sC_, i64_w, i32_w]
      rfl
     refine pure_ (i := 3) (N := some 36) (v := ?_) (a' := ?_) #[true, false, true, true, false, false, false, false, false, false] rfl rfl (by kernel_rfl) (fun _ _ _ h => h) (Or.inl ⟨by rfl, ?_⟩) ?_ ?_
     rotate_left
     ·intro w'
      go_simp
      with_reducible rfl
     rotate_left
     ·simp only [Act.put, sA_, sB_, sC_, i64_w, i32_w]
      rfl
     refine pure_ (i := 5) (N := some 38) (v := ?_) (a' := ?_) #[true, false, true, true, false, true, false, false, false, false] rfl rfl (by kernel_rfl) (fun _ _ _ h => h) (Or.inl ⟨by rfl, ?_⟩) ?_ ?_
     rotate_left
     ·intro w'
      go_simp
      with_reducible rfl
     rotate_left
     ·simp only [Act.put, sA_, sB_, sC_, i64_w, i32_w]
      rfl
     refine take_ (i := 1) (N := some 34) (v := ?_) (a' := ?_) #[true, true, true, true, false, true, false, false, false, false] rfl rfl (by kernel_rfl) (fun _ _ _ h => h) (Or.inl ⟨by rfl, ?_⟩) hHeld ?_ ?_
     rotate_left
     ·rintro w' ⟨s0, s1, s2⟩
      go_simp
      with_reducible rfl
     rotate_left
     ·simp only [Act.put, sA_, sB_, sC_, i64_w, i32_w]
      rfl
     refine take_ (i := 4) (N := some 37) (v := ?_) (a' := ?_) #[true, true, true, true, true, true, false, false, false, false] rfl rfl (by kernel_rfl) (fun _ _ _ h => h) (Or.inl ⟨by rfl, ?_⟩) hHeld ?_ ?_
     rotate_left
     ·rintro w' ⟨s0, s1, s2⟩
      go_simp
      with_reducible rfl
     rotate_left
     ·simp only [Act.put, sA_, sB_, sC_, i64_w, i32_w]
      rfl
     refine pure_ (i := 6) (N := some 39) (v := ?_) (a' := ?_) #[true, true, true, true, true, true, true, false, false, false] rfl rfl (by kernel_rfl) (fun _ _ _ h => h) (Or.inl ⟨by rfl, ?_⟩) ?_ ?_
     rotate_left
     ·intro w'
      go_simp
      with_reducible rfl
     rotate_left
     ·simp only [Act.put, sA_, sB_, sC_, i64_w, i32_w]
      rfl
     refine take_ (i := 7) (N := some 40) (v := ?_) (a' := ?_) #[true, true, true, true, true, true, true, true, false, false] rfl rfl (by kernel_rfl) (fun _ _ _ h => h) (Or.inl ⟨by rfl, ?_⟩) hHeld ?_ ?_
     rotate_left
     ·rintro w' ⟨s0, s1, s2⟩
      go_simp
      with_reducible rfl
     rotate_left
     ·simp only [Act.put, sA_, sB_, sC_, i64_w, i32_w]
      rfl
     refine pure_ (i := 8) (N := some 41) (v := ?_) (a' := ?_) #[true, true, true, true, true, true, true, true, true, false] rfl rfl (by kernel_rfl) (fun _ _ _ h => h) (Or.inl ⟨by rfl, ?_⟩) ?_ ?_
     rotate_left
     ·intro w'
      go_simp
      with_reducible rfl
     rotate_left
     ·simp only [Act.put, sA_, sB_, sC_, i64_w, i32_w]
      rfl
     refine last_ (i := 9) (N := none) #[true, true, true, true, true, true, true, true, true, true] rfl rfl (by kernel_rfl) (by decide) (fun K hK => ?_)
     refine skip_ (w1 := ?_) (by rfl) rfl ?_ ?_
     rotate_left
     ·go_simp
      rfl
     refine hK.out _ _ ?_
     clear hK K
     refine done_ (by kernel_rfl) ?_
     have hd : w.heap.size ≤ d := HF.out.dn
     refine ⟨((KeepsOthers.setCell _ _ _).trans (KeepsOthers.drew _)).from _, (Frk.set W hd p _).trans (Frk.drew _ _ _), ?_⟩
     have e : (pre ++ [(⟨p, hp⟩ : Fin N)]).foldl (spPut l0_1 ats N) D0 = (pre.foldl (spPut l0_1 ats N) D0).set p (rd l0_1 a) := by
      rw [List.foldl_append]
      simp only [List.foldl_cons, List.foldl_nil, spPut]
      rw [← HAt.out]
     show SpInv _ _ _ _ _ _ _ _ _ _ _ _ _ _ _ _ _ _
     rw [e]
     exact (HI.out.put hd p (rd l0_1 a)).drew
   case done =>
    rintro D xs W hD rfl HI hK
    have x1 : W.cell? ⟨w5.heap.size, 0, none⟩ = some (.slice A2 s'.length c2) := (blk_cell HI.bo 0).trans rfl
    have x2 : W.cell? ⟨w5.heap.size, 1, none⟩ = some (.slice (some ⟨d, 0, none⟩) N cd) := (blk_cell HI.bo 1).trans rfl
    have y1 := blk_frozen HI.br 0
    have y2 := blk_frozen HI.br 1
    have z1 : W.cell? ⟨w.heap.size + 1, 0, none⟩ = some (.slice none 0 0) := (blk_cell HI.br 0).trans rfl
    have z2 : W.cell? ⟨w.heap.size + 1, 1, none⟩ = some (.slice none 0 0) := (blk_cell HI.br 1).trans rfl
    have HI' := Aside0.mk HI
    have HK := Aside0.mk hK
    have HDD := Aside0.mk hD
    clear HI hK hD
    go_wp2_with fail
    rw [HQ.out]
    have hrb : w.heap.size + 1 < w4.heap.size := HL4.out
    have hB2 : Below w.heap.size w ((W.setCell ⟨w.heap.size + 1, 0, none⟩ (.slice A2 s'.length c2)).setCell ⟨w.heap.size + 1, 1, none⟩ (.slice (some ⟨d, 0, none⟩) N cd)) := (HI'.out.bel.setCell (p := ⟨w.heap.size + 1, 0, none⟩) (Nat.le_succ _) _).setCell (p := ⟨w.heap.size + 1, 1, none⟩) (Nat.le_succ _) _
    have hbr := blk_put (cs := #[.slice A2 s'.length c2, .slice none 0 0]) (blk_put (cs := #[.slice none 0 0, .slice none 0 0]) HI'.out.br 0 (.slice A2 s'.length c2) rfl) 1 (.slice (some ⟨d, 0, none⟩) N cd) rfl
    have hsh := tn_off (tn_off HI'.out.sh hrb 0 (.slice A2 s'.length c2)) hrb 1 (.slice (some ⟨d, 0, none⟩) N cd)
    have hda := tn_off (tn_off HI'.out.da hrb 0 (.slice A2 s'.length c2)) hrb 1 (.slice (some ⟨d, 0, none⟩) N cd)
    have hkd := ((KeepsOthers.setCell W ⟨w.heap.size + 1, 0, none⟩ (.slice A2 s'.length c2)).trans (KeepsOthers.setCell _ ⟨w.heap.size + 1, 1, none⟩ (.slice (some ⟨d, 0, none⟩) N cd))).same D _ HK.out rfl
    generalize (W.setCell ⟨w.heap.size + 1, 0, none⟩ (.slice A2 s'.length c2)).setCell ⟨w.heap.size + 1, 1, none⟩ (.slice (some ⟨d, 0, none⟩) N cd) = X at hB2 hbr hsh hda hkd ⊢
    have hg := grownBy_putObj' X D (.deferred none)
    have hr : ∀ r, some D = some r → ∃ o : Obj, X.heap[r]? = some o ∧ o.isCells = false := fun r e => by cases e; exact ⟨_, hkd, rfl⟩
    refine ⟨by simp, .inl ⟨_, _, rfl, run_takeDeferred hkd, ?_⟩⟩
    refine ⟨_, results_ct rfl _ _ (w.heap.size + 1) 24 #[.slice A2 s'.length c2, .slice (some ⟨d, 0, none⟩) N cd] (0, 0) _ rfl (block_grown hbr rfl hg hr) Try.underlying24 rfl (by kernel_rfl), ?_⟩
    refine ⟨_, _, rfl, Kd.R_mono (Kd.R_lower (R_grown hsh hg hr) (by omega)) (fun k_ hk e => hk (by simpa [Value.ownBlock] using e)), ?_, ?_⟩
    ·rw [sp_all HC.out.2.1 (fplaces_len HA.out)] at hda
     exact Kd.R_lower (R_grown hda hg hr) (by omega)
    ·exact hB2.grown hg hB2.size (fun k e => by cases e; have := HDD.out; have := HF.out.bel.size; omega)
   case stop =>
    rintro D c pre W _ _ h _
    exact h.elim
theorem fplace.mono (s great : List Int) (p : Int) (k : Nat) : LeO (fplace k s great p) (fplace (k + 1) s great p) := by
 unfold fplace
 exact LeO.bind (shape_Index.mono _ _ _) (fun _ => LeO.refl _)
theorem fplaces.mono (s great : List Int) (k : Nat) : ∀ m p, LeO (fplaces k s great m p) (fplaces (k + 1) s great m p)
 | 0, _ => LeO.refl _
 | m + 1, p => LeO.bind (fplace.mono s great _ k) (fun _ => LeO.map _ (fplaces.mono s great k m (p + 1)))
theorem tensor_Spread.mono : ∀ a0 a1 a2 k, LeO (tensor_Spread.f k a0 a1 a2) (tensor_Spread.f (k + 1) a0 a1 a2) := by
 intro a0 a1 a2 k
 unfold tensor_Spread.f
 repeat' first
  | (with_reducible exact shape_Fits.mono _ _ _)
  | (with_reducible exact shape_Check.mono _ _)
  | (with_reducible exact shape_Size.mono _ _)
  | (with_reducible exact tensor_Check.mono _ _ _)
  | (with_reducible exact tensor_Full.mono _ _ _)
  | (with_reducible exact fplaces.mono _ _ _ _ _)
  | (with_reducible exact LeO.refl _)
  | (with_reducible exact LeO.none _)
  | (with_reducible refine LeO.ite ?_ ?_)
  | (with_reducible refine LeO.bind ?_ (fun _ => ?_))
end


/-! ### fix_told: function 47 -/
def fix_told.f (a0 : Int) (a1 : Bool) : Option (Int × Int) := if a1 = true then (some (a0, 0)) else (some (0, 10))
set_option maxHeartbeats 8000000 in
set_option maxRecDepth 100000 in
theorem fix_told.calls (a0 : Int) (a1 : Bool) (r1 : Int) (r2 : Int) (w : World) (h : fix_told.f a0 a1 = some (r1, r2)) :
    Calls Try.prog 47 #[.int .i64 a0, .bool a1] w fun e w' => e = .returned (.tuple #[.int .i64 r1, .int .i64 r2]) ∧ Drawn0 w w' := by
  have H : (if a1 = true then (some (a0, 0)) else (some (0, 10))) = some (r1, r2) := h
  clear h
  by_cases c3 : a1 = true
  · subst c3
    have H1 : (some (a0, 0)) = some (r1, r2) := by rw [if_pos rfl] at H; exact H
    clear H
    have H := H1
    clear H1
    simp only [Option.some.injEq, Prod.mk.injEq] at H
    obtain ⟨rfl, rfl⟩ := H
    go_enter Try.func47, Try.ntmps47
    go_wp2
    go_ret2
    exact ⟨by first | rfl | (simp; done) | (simp [*]; done), by repeat (first | exact Drawn0.refl _ | apply Drawn0.step)⟩
  · replace c3 := Bool.eq_false_iff.mpr c3
    subst c3
    have H1 : (some (0, 10)) = some (r1, r2) := by rw [if_neg (show ¬ (false = true) by decide)] at H; exact H
    clear H
    have H := H1
    clear H1
    simp only [Option.some.injEq, Prod.mk.injEq] at H
    obtain ⟨rfl, rfl⟩ := H
    go_enter Try.func47, Try.ntmps47
    go_wp2
    go_ret2
    exact ⟨by first | rfl | (simp; done) | (simp [*]; done), by repeat (first | exact Drawn0.refl _ | apply Drawn0.step)⟩

/-! ### fix_Add: function 38 -/
def fix_Add.f (a0 : Int) (a1 : Int) : Option (Int × Int) := if ((decide (a0 < 0)) != (decide (a1 < 0))) = true then ((fix_told.f (wrap64 (a0 + a1)) true).bind fun bt145 => (some (bt145.1, bt145.2))) else ((fix_told.f (wrap64 (a0 + a1)) ((decide ((wrap64 (a0 + a1)) < 0)) == (decide (a0 < 0)))).bind fun bt147 => (some (bt147.1, bt147.2)))
set_option maxHeartbeats 8000000 in
set_option maxRecDepth 100000 in
theorem fix_Add.calls (a0 : Int) (a1 : Int) (r1 : Int) (r2 : Int) (w : World) (h : fix_Add.f a0 a1 = some (r1, r2)) :
    Calls Try.prog 38 #[.int .i64 a0, .int .i64 a1] w fun e w' => e = .returned (.tuple #[.int .i64 r1, .int .i64 r2]) ∧ Drawn0 w w' := by
  have H : (if ((decide (a0 < 0)) != (decide (a1 < 0))) = true then ((fix_told.f (wrap64 (a0 + a1)) true).bind fun bt145 => (some (bt145.1, bt145.2))) else ((fix_told.f (wrap64 (a0 + a1)) ((decide ((wrap64 (a0 + a1)) < 0)) == (decide (a0 < 0)))).bind fun bt147 => (some (bt147.1, bt147.2)))) = some (r1, r2) := h
  clear h
  by_cases c3 : ((decide (a0 < 0)) != (decide (a1 < 0))) = true
  · rw [if_pos c3] at H
    have c3b0 : ((decide (a0 < 0)) != (decide (a1 < 0))) = true := c3
    (try (have c3b1 : decide ((decide (a0 < 0)) = (decide (a1 < 0))) = false := by simpa using c3))
    (try (have c3b2 : ((decide (a0 < 0)) == (decide (a1 < 0))) = false := by simpa using c3))
    (try (have c3b3 : ¬ ((decide (a0 < 0)) = (decide (a1 < 0))) := by simpa using c3))
    clear c3
    replace H := Option.bind_eq_some_iff.mp H
    obtain ⟨⟨t145, t146⟩, A40, H⟩ := H
    replace H : (some (t145, t146)) = some (r1, r2) := H
    have A4 := Aside0.mk A40
    clear A40
    simp only [Option.some.injEq, Prod.mk.injEq] at H
    obtain ⟨rfl, rfl⟩ := H
    go_enter Try.func38, Try.ntmps38
    go_wp2_with (first | ((with_reducible refine gate_callee (f := 47) rfl ?_); refine goesL_ (some 23) rfl rfl Try.func47 (by kernel_rfl) rfl #[.int .i64 (wrap64 (a0 + a1)), .bool true] rfl (by (try simp only [List.map_toArray, List.map_cons, List.map_nil]); first | done | rfl | (simp only [List.length_drop, List.length_take]; rfl)) ?_; (with_reducible refine (fix_told.calls (wrap64 (a0 + a1)) true t145 t146 _ A4.out).mono ?_); rintro e w' ⟨rfl, ⟨nd, rfl⟩⟩; refine ⟨_, rfl, ?_⟩))
    go_ret2
    exact ⟨by first | rfl | (simp; done) | (simp [*]; done), by repeat (first | exact Drawn0.refl _ | apply Drawn0.step)⟩
  · rw [if_neg c3] at H
    have c3b0 : ((decide (a0 < 0)) != (decide (a1 < 0))) = false := by simpa using c3
    (try (have c3b1 : decide ((decide (a0 < 0)) = (decide (a1 < 0))) = true := by simpa using c3))
    (try (have c3b2 : ((decide (a0 < 0)) == (decide (a1 < 0))) = true := by simpa using c3))
    clear c3
    replace H := Option.bind_eq_some_iff.mp H
    obtain ⟨⟨t147, t148⟩, A50, H⟩ := H
    replace H : (some (t147, t148)) = some (r1, r2) := H
    have A5 := Aside0.mk A50
    clear A50
    simp only [Option.some.injEq, Prod.mk.injEq] at H
    obtain ⟨rfl, rfl⟩ := H
    go_enter Try.func38, Try.ntmps38
    go_wp2_with (first | ((with_reducible refine gate_callee (f := 47) rfl ?_); refine goesL_ (some 23) rfl rfl Try.func47 (by kernel_rfl) rfl #[.int .i64 (wrap64 (a0 + a1)), .bool ((decide ((wrap64 (a0 + a1)) < 0)) == (decide (a0 < 0)))] rfl (by (try simp only [List.map_toArray, List.map_cons, List.map_nil]); first | done | rfl | (simp only [List.length_drop, List.length_take]; rfl)) ?_; (with_reducible refine (fix_told.calls (wrap64 (a0 + a1)) ((decide ((wrap64 (a0 + a1)) < 0)) == (decide (a0 < 0))) t147 t148 _ A5.out).mono ?_); rintro e w' ⟨rfl, ⟨nd, rfl⟩⟩; refine ⟨_, rfl, ?_⟩))
    go_ret2
    exact ⟨by first | rfl | (simp; done) | (simp [*]; done), by repeat (first | exact Drawn0.refl _ | apply Drawn0.step)⟩

end Go.Proofs.Ytoiaegbhnpddlaa.A
