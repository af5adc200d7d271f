/- Small words of this session's own; no conditions. -/
import Derived.WalkKit
import Derived.Below
import Derived.RowKit
import Derived.Test.YtjcgadfmhfhbgaaWTab
import Derived.Test.YtjcgadfmhfhbgaaWMore
import Derived.Test.YtjcgadfmhfhbgaaWN
namespace Go.Proofs.Ytjcgadfmhfhbgaa.A
open Go.RowKit
theorem enters_ (P : Program) {f : FuncId} {fn : Func} {c : Code} (hf : P.funcs[f]? = some fn) (hname : (fn.name == "runtime.NumGoroutine") = false) (hb : fn.body = some c) : ∀ args w, (callFunc f args).run P w = .ok (.enter f args) w := by
  intro args w
  have h1 : fn.name ≠ "runtime.NumGoroutine" := by simpa using hname
  simp [callFunc, hf, h1, hb, mark]
def idxF {α : Type} (q : α → Bool) (i : Nat) : List α → Int
  | [] => -1
  | x :: xs => if q x = true then (i : Int) else idxF q (i + 1) xs
theorem idxF_hit {α : Type} (q : α → Bool) : ∀ (l : List α) (i k : Nat) (x : α), l[k]? = some x → q x = true → (∀ j y, j < k → l[j]? = some y → q y = false) → idxF q i l = ((i + k : Nat) : Int)
  | [], i, k, x, h, _, _ => by simp at h
  | y :: ys, i, 0, x, h, hq, _ => by
    simp at h; subst h; simp [idxF, hq]
  | y :: ys, i, k + 1, x, h, hq, hn => by
    have h0 := hn 0 y (by omega) rfl
    simp only [idxF, h0, Bool.false_eq_true, if_false]
    rw [idxF_hit q ys (i + 1) k x (by simpa using h) hq (fun j z hj hz => hn (j + 1) z (by omega) (by simpa using hz))]
    omega
theorem idxF_miss {α : Type} (q : α → Bool) : ∀ (l : List α) (i : Nat), (∀ (j : Nat) (y : α), l[j]? = some y → q y = false) → idxF q i l = -1
  | [], _, _ => rfl
  | y :: ys, i, h => by
    simp only [idxF, h 0 y rfl, Bool.false_eq_true, if_false]
    exact idxF_miss q ys (i + 1) (fun j z hz => h (j + 1) z (by simpa using hz))
theorem idxF_any {α : Type} (q : α → Bool) : ∀ (l : List α) (i : Nat), decide (0 ≤ idxF q i l) = l.any q
  | [], i => by simp [idxF]
  | x :: xs, i => by
    cases h : q x with
    | true => simp [idxF, h]
    | false =>
      simp only [idxF, h, Bool.false_eq_true, if_false, List.any_cons, Bool.false_or]
      exact idxF_any q xs (i + 1)
theorem sA_ {α : Type _} (l : List α) (i : Nat) (a : α) : l.toArray.setIfInBounds i a = (l.set i a).toArray := List.setIfInBounds_toArray ..
theorem sB_ {α : Type _} (x : α) (l : List α) (a : α) : (x :: l).set 0 a = a :: l := rfl
theorem sC_ {α : Type _} (x : α) (l : List α) (i : Nat) (a : α) : (x :: l).set (i + 1) a = x :: l.set i a := rfl
section
open Go.Proofs.YtjcgadfmhfhbgaaW.PrintWords Go.Proofs.YtjcgadfmhfhbgaaW.PrintLast Go.Proofs.YtjcgadfmhfhbgaaW.PrintMore
theorem hb_ {w w' : World} {a : Addr} {v : Value} (hB : Aside0 (Below w.heap.size w w')) (h : w.cell? a = some v) : w'.cell? a = some v := (hB.out.cell (World.block_lt_of_cell? w _ h)).trans h
theorem hc_ {w : World} {g : Nat} {t : TypeId} {cs : Array Value} {v : Value} (h : Aside0 (w.heap[g]? = some (.cells cs t (0, 0)))) (i : Nat) (e : cs[i]? = some v := by rfl) : w.cell? ⟨g, i, none⟩ = some v := (blk_cell h.out i).trans e
theorem mvR_ {P Q : Prop} (h : P) (f : P → Q := by intro h_; (with_reducible repeat (first | apply Kd.R_alloc | apply Kd.R_drewN | apply Kd.R_drew)); exact h_) : Q := f h
theorem mvV_ {P Q : Prop} (h : P) (f : P → Q := by intro h_; (with_reducible repeat (first | apply Kd.V_alloc | apply Kd.V_drewN | apply Kd.V_drew)); exact h_) : Q := f h
theorem mvK_ {P Q : Prop} (h : P) (f : P → Q := by intro h_; (with_reducible repeat (first | refine blk_drewN ?_ _ | refine blk_drew ?_ | refine blk_alloc ?_ _)); exact h_) : Q := f h
theorem mvC_ {P Q : Prop} (h : P) (f : P → Q := by intro h_; repeat (first | exact h_ | (with_reducible refine Kd.C_alloc ?_ _) | (with_reducible refine Kd.C_drewN ?_ _) | (with_reducible refine Kd.C_drew ?_))) : Q := f h
theorem mvB_ {W0 W W' : World} {g : Nat} {o : Obj} (h : W0.heap[g]? = some o) (hb : Below W.heap.size W W') (f : W0.heap[g]? = some o → W.heap[g]? = some o := by intro h_; (with_reducible repeat (first | refine blk_drewN ?_ _ | refine blk_drew ?_ | refine blk_alloc ?_ _)); exact h_) : Aside0 (W'.heap[g]? = some o) := ⟨blk_below (f h) hb⟩
theorem mvF_ {W0 W : World} {g : Nat} {o : Obj} (h : W0.heap[g]? = some o) {k : Nat} (hk : W.heap.size ≤ k) (f : W0.heap[g]? = some o → W.heap[g]? = some o := by intro h_; (with_reducible repeat (first | refine blk_drewN ?_ _ | refine blk_drew ?_ | refine blk_alloc ?_ _)); exact h_) : k ≠ g := Kd.freshB (f h) k hk
theorem mbR_ {α : Type} {d : Kd α} {e base : Nat} {ok : Nat → Prop} {v : Value} {xs : List α} {W0 W W' : World} (h : Kd.R d e W0 base ok v xs) (hb : Below W.heap.size W W') (f : Kd.R d e W0 base ok v xs → Kd.R d e W base ok v xs := by intro h_; (with_reducible repeat (first | apply Kd.R_alloc | apply Kd.R_drewN | apply Kd.R_drew)); exact h_) : Aside0 (Kd.R d e W' base ok v xs) := ⟨Kd.R_below (f h) hb⟩
theorem mbV_ {α : Type} {d : Kd α} {e base : Nat} {ok : Nat → Prop} {v : Value} {xs : List α} {W0 W W' : World} (h : Kd.V d e W0 base ok v xs) (hb : Below W.heap.size W W') (f : Kd.V d e W0 base ok v xs → Kd.V d e W base ok v xs := by intro h_; (with_reducible repeat (first | apply Kd.V_alloc | apply Kd.V_drewN | apply Kd.V_drew)); exact h_) : Aside0 (Kd.V d e W' base ok v xs) := ⟨Kd.V_below (f h) hb⟩
theorem mbN_ {α : Type} {d : Kd α} {e base : Nat} {ok : Nat → Prop} {v : Value} {xs : List α} {W0 W W' : World} (h : Kd.N d e W0 base ok v xs) (hb : Below W.heap.size W W') (f : Kd.N d e W0 base ok v xs → Kd.N d e W base ok v xs := by intro h_; (with_reducible repeat (first | apply Kd.N_alloc | apply Kd.N_drewN | apply Kd.N_drew)); exact h_) : Aside0 (Kd.N d e W' base ok v xs) := ⟨Kd.N_below (f h) hb⟩
theorem cz0_ {W : World} {g : Nat} {a : Value} {l : List Value} {t : TypeId} (h : W.heap[g]? = some (.cells ⟨a :: l⟩ t)) : W.cell? ⟨g, 0, none⟩ = some a := (blk_cell h 0).trans (by simp)
theorem cz1_ {W : World} {g : Nat} {a b : Value} {l : List Value} {t : TypeId} (h : W.heap[g]? = some (.cells ⟨a :: b :: l⟩ t)) : W.cell? ⟨g, 1, none⟩ = some b := (blk_cell h 1).trans (by simp)
theorem cz2_ {W : World} {g : Nat} {a b c : Value} {l : List Value} {t : TypeId} (h : W.heap[g]? = some (.cells ⟨a :: b :: c :: l⟩ t)) : W.cell? ⟨g, 2, none⟩ = some c := (blk_cell h 2).trans (by simp)
theorem od_ {p : Prop} [Decidable p] (h : decide p = true := by first | (with_reducible assumption) | assumption) : p := of_decide_eq_true h
theorem bq0_ {P Q : Prop} (h : P) (f : P → Q := by intro h_; repeat (first | (with_reducible first | exact h_ | apply below_alloc | apply pw_below_drewN | apply below_drew1) | exact h_)) : Q := f h
theorem bq1_ {P Q A : Prop} (h : P) (a : A) (f : P → A → Q := by intro h_ a_; repeat (first | (with_reducible first | exact h_ | apply below_alloc | apply pw_below_drewN | apply below_drew1 | refine below_set ?_ a_) | exact h_)) : Q := f h a
theorem bq2_ {P Q A B : Prop} (h : P) (a : A) (b : B) (f : P → A → B → Q := by intro h_ a_ b_; repeat (first | (with_reducible first | exact h_ | apply below_alloc | apply pw_below_drewN | apply below_drew1 | refine below_set ?_ a_ | refine below_set ?_ b_) | exact h_)) : Q := f h a b
theorem bq3_ {P Q A B C : Prop} (h : P) (a : A) (b : B) (c : C) (f : P → A → B → C → Q := by intro h_ a_ b_ c_; repeat (first | (with_reducible first | exact h_ | apply below_alloc | apply pw_below_drewN | apply below_drew1 | refine below_set ?_ a_ | refine below_set ?_ b_ | refine below_set ?_ c_) | exact h_)) : Q := f h a b c
end
section
open Go.Proofs.YtjcgadfmhfhbgaaW.PrintWords Go.Proofs.YtjcgadfmhfhbgaaW.PrintLast
def skipsT (T : Bool × List (List Nat × List Nat)) (l' : List Bool) : List Bool → List (Nat × Nat) → Bool
  | l, [] => l == l'
  | l, (i, _) :: r => T.1 && freeT T.2 l i && readyAt T.2 l i && skipsT T l' (l.set i true) r
def offs (ops : Array Oper) : Act → List (Nat × Nat) → Bool
  | _, [] => true
  | a, (i, n) :: r => (match ops[i]? with | some o => (o.dst == some n) && !(Region.wanted o (yielded ops a.tmps)) | none => false) && offs ops (a.put (some n) undef) r
def putU : Act → List (Nat × Nat) → Act
  | a, [] => a
  | a, (_, n) :: r => putU (a.put (some n) undef) r
theorem skips_ {P : Program} {md : Region.Mode} {ops : Array Oper} {Q : Exit → Act → World → Prop} {S : World → Prop} {ds : List Nat} {T : Bool × List (List Nat × List Nat)} {w : World} (hT : rtab md ops = T)
    (hQ : ∀ (n : Nat) (v : Value) (c : List PanicEntry) (a : Act) (w : World), Q (.panic c) (a.put (some n) v) w → Q (.panic c) a w) :
    ∀ (is : List (Nat × Nat)) {fuel m : Nat} {l : Array Bool} (l' : Array Bool) {a : Act}, m = fuel + is.length → skipsT T l'.toList l.toList is = true → offs ops a is = true →
      ∀ {a' : Act}, putU a is = a' → wpAnyLast P md ops Q S ds fuel l' a' w → wpAnyLast P md ops Q S ds m l a w
  | [], fuel, m, l, l', a, hm, hc, _, a', ha, h => by
    simp only [skipsT, beq_iff_eq] at hc
    obtain rfl : l = l' := Array.ext' hc
    simp only [putU] at ha
    subst ha
    simp only [List.length_nil, Nat.add_zero] at hm
    subst hm
    exact h
  | (i, n) :: r, fuel, m, l, l', a, hm, hc, ho, a', ha, h => by
    simp only [skipsT, Bool.and_eq_true] at hc
    obtain ⟨⟨⟨h1, h2⟩, h3⟩, h4⟩ := hc
    simp only [offs, Bool.and_eq_true] at ho
    obtain ⟨ho, hr⟩ := ho
    simp only [putU] at ha
    cases hi : ops[i]? with
    | none => rw [hi] at ho; cases ho
    | some o =>
      rw [hi] at ho
      simp only [Bool.and_eq_true, beq_iff_eq, Bool.not_eq_true'] at ho
      obtain ⟨hd, hw⟩ := ho
      obtain ⟨k, rfl⟩ : ∃ k, m = k + 1 := ⟨fuel + r.length, by rw [hm]; simp only [List.length_cons]; omega⟩
      have e : (l.setIfInBounds i true).toList = l.toList.set i true := Array.toList_setIfInBounds ..
      refine pure_ (v := undef) (l.setIfInBounds i true) hi hd (any_of hT ?_) (fun c a w hq => hQ n undef c a w (hd ▸ hq)) (Or.inr ⟨hw, rfl⟩) (a' := a.put (some n) undef) rfl ?_
      · simp only [anyT, Bool.and_eq_true, beq_iff_eq]
        exact ⟨⟨⟨h1, h2⟩, h3⟩, e.symm⟩
      · exact skips_ hT hQ r l' (by simp only [List.length_cons] at hm; omega) (by rw [e]; exact h4) hr ha h
variable {P : Program} {md : Region.Mode} {ops : Array Oper} {Q : Exit → Act → World → Prop} {S : World → Prop} {ds : List Nat} {T : Bool × List (List Nat × List Nat)}
theorem pu_ (i : Nat) (N : Option Tmp) (l' : Array Bool) (hT : Aside0 (rtab md ops = T)) {oi : Oper} {v : Value} {fuel : Nat} {l : Array Bool} {a : Act} {w : World} {a' : Act}
    (h : wpAnyLast P md ops Q S ds fuel l' a' w) (hi : ops[i]? = some oi := by rfl) (hN : oi.dst = N := by rfl) (hc : anyT T l.toList l'.toList i = true := by kernel_rfl)
    (hw : Region.wanted oi (yielded ops a.tmps) = true := by rfl) (hy : ∀ w' : World, (execOp a.eval oi).run P w' = .ok (.value v) w' := by (intro w'; go_simp; with_reducible rfl)) (ha : a.put N v = a' := by (simp only [Act.put, sA_, sB_, sC_, i64_w, i32_w]; rfl))
    (hQ : ∀ c a w, Q (.panic c) (a.put oi.dst v) w → Q (.panic c) a w := by exact fun _ _ _ h => h) :
    wpAnyLast P md ops Q S ds (fuel + 1) l a w := pure_ l' hi hN (any_of hT.out hc) hQ (Or.inl ⟨hw, hy⟩) ha h
theorem ta_ {B : List Nat} (i : Nat) (N : Option Tmp) (l' : Array Bool) (hT : Aside0 (rtab md ops = T)) (hB : Aside0 (waitsOk T.2 B = true)) {oi : Oper} {v : Value} {fuel : Nat} {l : Array Bool} {a : Act} {w : World} (hS : S w) {a' : Act}
    (h : wpAnyLast P md ops Q S ds fuel l' a' w) (hi : ops[i]? = some oi := by rfl) (hN : oi.dst = N := by rfl) (hc : takeW T B ds l.toList l'.toList i = true := by kernel_rfl)
    (hw : Region.wanted oi (yielded ops a.tmps) = true := by rfl) (hy : ∀ w' : World, S w' → (execOp a.eval oi).run P w' = .ok (.value v) w') (ha : a.put N v = a' := by (simp only [Act.put, sA_, sB_, sC_, i64_w, i32_w]; rfl))
    (hQ : ∀ c a w, Q (.panic c) (a.put oi.dst v) w → Q (.panic c) a w := by exact fun _ _ _ h => h) :
    wpAnyLast P md ops Q S ds (fuel + 1) l a w := take_ l' hi hN (take_ofW hT.out hB.out hc) hQ (Or.inl ⟨hw, hy⟩) hS ha h
theorem gL_ {rest : List Oper} {oi : Oper} {a : Act} {w : World} (N : Option Tmp) {f : FuncId} {fn : Func} {us : Array Operand} {ts : Array TypeId} (hf : P.funcs[f]? = some fn) (args : Array Value)
    (h : Calls P f args w fun e w' => ∃ v, e = .returned v ∧ wpList P ops Q rest (a.put N v) w') (hd : oi.dst = N := by rfl) (hg : oi.guard = none := by rfl) (hname : (fn.name == "runtime.NumGoroutine") = false := by kernel_rfl) (hb : fn.body.isSome = true := by rfl)
    (hop : oi.op = .call { callee := .value (.func f), args := us, argTypes := ts } := by rfl) (hargs : us.map a.eval = args := by (try simp only [List.map_toArray, List.map_cons, List.map_nil]); first | done | rfl | (simp only [List.length_drop, List.length_take]; rfl)) : wpList P ops Q (oi :: rest) a w :=
  goesL_ N hd hg hf hname hb args hop hargs h
theorem eqT_ {a b : Int} (h : a = b) : (a == b) = true ∧ (a != b) = false := ⟨beq_iff_eq.mpr h, bne_eq_false_iff_eq.mpr h⟩
end
end Go.Proofs.Ytjcgadfmhfhbgaa.A
