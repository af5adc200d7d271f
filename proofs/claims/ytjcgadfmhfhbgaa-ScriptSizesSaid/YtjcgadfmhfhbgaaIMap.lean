/- Maps whose keys are of the type int, told as lists of keys and values; no conditions. -/
import Derived.Maps.OwnOps
import Derived.Below
namespace Go.Proofs.Ytjcgadfmhfhbgaa.A
open Go.RowKit Go.MapKept Go.ChangeMaps
def imOf (es : List (Int × Value)) (l : List MapEntry) : Prop := l.map (fun e => (e.key, e.val)) = es.map (fun p => (Value.int .i64 p.1, p.2))
def IM (w : World) (b : Nat) (es : List (Int × Value)) : Prop := ∃ arr clock, w.heap[b]? = some (.map arr clock) ∧ imOf es arr.toList
def imGet (k : Int) : List (Int × Value) → Option Value
  | [] => none
  | p :: r => if k = p.1 then some p.2 else imGet k r
def imPut (k : Int) (v : Value) : List (Int × Value) → List (Int × Value)
  | [] => [(k, v)]
  | p :: r => if k = p.1 then (k, v) :: r else p :: imPut k v r
theorem imOf_cons {p : Int × Value} {es : List (Int × Value)} {l : List MapEntry} (h : imOf (p :: es) l) : ∃ e r, l = e :: r ∧ e.key = .int .i64 p.1 ∧ e.val = p.2 ∧ imOf es r := by
  cases l with
  | nil => simp [imOf] at h
  | cons e r =>
    simp only [imOf, List.map_cons, List.cons.injEq, Prod.mk.injEq] at h
    exact ⟨e, r, rfl, h.1.1, h.1.2, h.2⟩
theorem imFind (k : Int) : ∀ (es : List (Int × Value)) (l : List MapEntry) (i : Nat), imOf es l →
    (imGet k es = none ∧ Instr.findNow (.int .i64) (.int .i64 k) l i = some none) ∨
    ∃ j v, imGet k es = some v ∧ Instr.findNow (.int .i64) (.int .i64 k) l i = some (some (i + j, v)) ∧ (∃ e, l[j]? = some e ∧ e.key = .int .i64 k) ∧ ∀ v', imOf (imPut k v' es) (l.modify j fun e => { e with key := .int .i64 k, val := v' })
  | [], l, i, h => by
    have : l = [] := by cases l with
      | nil => rfl
      | cons e r => simp [imOf] at h
    subst this
    exact .inl ⟨rfl, rfl⟩
  | p :: es, l, i, h => by
    obtain ⟨e, r, rfl, hk, hv, hr⟩ := imOf_cons h
    by_cases hp : k = p.1
    · refine .inr ⟨0, p.2, by simp [imGet, hp], ?_, ⟨e, rfl, by rw [hk, hp]⟩, fun v' => ?_⟩
      · simp [Instr.findNow, Instr.sameNow, hk, hp, hv]
      · simp only [imPut, if_pos hp, imOf, List.modify_zero_cons, List.map_cons]
        rw [hr]
    · have hs : Instr.sameNow (.int .i64) (.int .i64 k) e.key = some false := by
        rw [hk]
        simp [Instr.sameNow, hp]
      rcases imFind k es r (i + 1) hr with ⟨h1, h2⟩ | ⟨j, v, h1, h2, ⟨e', h3, h4⟩, h5⟩
      · exact .inl ⟨by simp [imGet, hp, h1], by simp [Instr.findNow, hs, h2]⟩
      · refine .inr ⟨j + 1, v, by simp [imGet, hp, h1], ?_, ⟨e', by simpa using h3, h4⟩, fun v' => ?_⟩
        · simp only [Instr.findNow, hs, h2]
          congr 3
          omega
        · simp only [imPut, if_neg hp, imOf, List.modify_succ_cons, List.map_cons]
          rw [show (r.modify j fun e => { e with key := .int .i64 k, val := v' }).map (fun e => (e.key, e.val)) = (imPut k v' es).map (fun p => (Value.int .i64 p.1, p.2)) from h5 v', hk, hv]
theorem imOf_push {es : List (Int × Value)} {l : List MapEntry} (h : imOf es l) (k : Int) (v : Value) (c : Nat) (hn : imGet k es = none) : imOf (imPut k v es) (l ++ [⟨.int .i64 k, v, c⟩]) := by
  have e : imPut k v es = es ++ [(k, v)] := by
    clear h
    induction es with
    | nil => rfl
    | cons p r ih =>
      by_cases hp : k = p.1
      · simp [imGet, hp] at hn
      · simp only [imGet, if_neg hp] at hn
        simp only [imPut, if_neg hp, ih hn, List.cons_append]
  rw [e]
  simp only [imOf, List.map_append, List.map_cons, List.map_nil]
  rw [show l.map (fun e => (e.key, e.val)) = es.map (fun p => (Value.int .i64 p.1, p.2)) from h]
section
variable {P : Program} {w : World} {b : Nat} {es : List (Int × Value)} {t K E : TypeId}
theorem IM.made (w : World) : IM (w.alloc (.map #[] 0)) w.heap.size [] := ⟨#[], 0, (heap_alloc w _).1, rfl⟩
theorem IM.cast {es' : List (Int × Value)} (h : IM w b es) (e : es = es') : IM w b es' := e ▸ h
theorem IM.lt (h : IM w b es) : b < w.heap.size := by
  obtain ⟨arr, c, hb, _⟩ := h
  exact (Array.getElem?_eq_some_iff.1 hb).1
theorem IM.keep {w' : World} (h : IM w b es) (hk : w'.heap[b]? = w.heap[b]?) : IM w' b es := by
  obtain ⟨arr, c, hb, he⟩ := h
  exact ⟨arr, c, hk.trans hb, he⟩
theorem IM.below {w' : World} {B : Nat} (h : IM w b es) (hb : Below B w w') (hlt : b < B) : IM w' b es := h.keep (hb.block b hlt)
theorem IM.look (h : IM w b es) (ht : P.underlying t = some (.map K E)) (hK : P.underlying K = some (.int .i64)) {z : Value} (hz : (zeroValue E).run P w = .ok z w) (k : Int) :
    (Instr.lookup t (.map (some b)) (.int .i64 k) true).run P w = .ok (.tuple #[(imGet k es).getD z, .bool (imGet k es).isSome]) w := by
  obtain ⟨arr, c, hb, he⟩ := h
  have hkey : IsKey (.int .i64) (.int .i64 k) := rfl
  rcases imFind k es arr.toList 0 he with ⟨h1, h2⟩ | ⟨j, v, h1, h2, _⟩
  · simp [Instr.lookup, run_underlying ht, MapKept.run_getObj_map hb, MapKept.run_checkKey hK hkey, MapKept.run_findKey hK h2, hz, h1, Result.andThen]
  · simp [Instr.lookup, run_underlying ht, MapKept.run_getObj_map hb, MapKept.run_checkKey hK hkey, MapKept.run_findKey hK h2, h1, Result.andThen]
theorem IM.store (h : IM w b es) (ht : P.underlying t = some (.map K E)) (hK : P.underlying K = some (.int .i64)) (k : Int) (v : Value) :
    ∃ w', (Instr.mapUpdate t (.map (some b)) (.int .i64 k) v).run P w = .ok () w' ∧ IM w' b (imPut k v es) ∧ w.grownBy w' (some b) := by
  obtain ⟨arr, c, hb, he⟩ := h
  have hkey : IsKey (.int .i64) (.int .i64 k) := rfl
  have hg : ∀ o, w.grownBy (setBlock w b o) (some b) := fun o => ⟨rfl, rfl, rfl, by simp [setBlock], fun i _ hi => heap_setBlock_other hb _ (fun e => hi (by rw [e]))⟩
  rcases imFind k es arr.toList 0 he with ⟨h1, h2⟩ | ⟨j, v0, h1, h2, ⟨e0, h3, h4⟩, h5⟩
  · refine ⟨setBlock w b (.map (arr.push ⟨.int .i64 k, v, c⟩) (c + 1)), ?_, ⟨_, _, heap_setBlock_same hb _, ?_⟩, hg _⟩
    · simp [Instr.mapUpdate, run_underlying ht, MapKept.run_getObj_map hb, MapKept.run_checkKey hK hkey, MapKept.run_findKey hK h2, MapKept.run_setObj_map _ hb, Result.andThen, setBlock]
    · rw [Array.toList_push]
      exact imOf_push he k v c h1
  · have hj : arr[j]? = some e0 := by simpa using h3
    refine ⟨setBlock w b (.map (arr.modify j (fun e => { e with key := .int .i64 k, val := v })) c), ?_, ⟨_, _, heap_setBlock_same hb _, ?_⟩, hg _⟩
    · have hs : Instr.sameBits 10000 (.int .i64 k) (.int .i64 k) = true := by simp [Instr.sameBits]
      have hks : ∀ W : World, (Instr.keyThatStays (.int .i64 k) (.int .i64 k)).run P W = .ok (.int .i64 k) W := fun W => by simp [Instr.keyThatStays, hs]
      simp [Instr.mapUpdate, run_underlying ht, MapKept.run_getObj_map hb, MapKept.run_checkKey hK hkey, MapKept.run_findKey hK h2, hj, h4, hks, MapKept.run_setObj_map _ hb, Result.andThen, setBlock]
    · rw [Array.toList_modify]
      exact h5 v
theorem wpList_im_put {ops : Array Oper} {rest : List Oper} {o : Oper} {a : Act} {Q : Exit → Act → World → Prop} (hg : o.guard = none) (m x v : Operand) (hop : o.op = Op.insert t m x v ∨ o.op = Op.mapUpdate t m x v)
    (ht : P.underlying t = some (.map K E)) (hK : P.underlying K = some (.int .i64)) (k : Int) (val : Value) (hown : IM w b es) (hm : a.eval m = .map (some b)) (hx : a.eval x = .int .i64 k) (hv : a.eval v = val)
    (h : ∀ w', IM w' b (imPut k val es) → w.grownBy w' (some b) → wpList P ops Q rest (a.put o.dst undef) w') : wpList P ops Q (o :: rest) a w := by
  refine wpList_plain hg fun K' hK' => ?_
  obtain ⟨w', hrun, r1, r2⟩ := hown.store (P := P) ht hK k val
  unfold Oper.wp
  rcases hop with hop | hop
  · simp [execOp, hop, hm, hx, hv, hrun, Result.andThen]
    exact hK' _ _ (h w' r1 r2)
  · simp [execOp, hop, hm, hx, hv, hrun, Result.andThen]
    exact hK' _ _ (h w' r1 r2)
theorem wpList_im_look {ops : Array Oper} {rest : List Oper} {o : Oper} {a : Act} {Q : Exit → Act → World → Prop} (hg : o.guard = none) (m x : Operand) (hop : o.op = Op.lookup t m x true)
    (ht : P.underlying t = some (.map K E)) (hK : P.underlying K = some (.int .i64)) {z : Value} (hz : (zeroValue E).run P w = .ok z w) (k : Int) (hown : IM w b es) (hm : a.eval m = .map (some b)) (hx : a.eval x = .int .i64 k)
    (h : wpList P ops Q rest (a.put o.dst (.tuple #[(imGet k es).getD z, .bool (imGet k es).isSome])) w) : wpList P ops Q (o :: rest) a w := by
  refine wpList_plain hg fun K' hK' => ?_
  have hrun := hown.look (P := P) ht hK hz k
  unfold Oper.wp
  simp [execOp, hop, hm, hx, hrun, Result.andThen]
  exact hK' _ _ h
theorem wpList_im_hit {ops : Array Oper} {rest : List Oper} {o : Oper} {a : Act} {Q : Exit → Act → World → Prop} (hg : o.guard = none) (m x : Operand) (hop : o.op = Op.lookup t m x true)
    (ht : P.underlying t = some (.map K E)) (hK : P.underlying K = some (.int .i64)) {z : Value} (hz : (zeroValue E).run P w = .ok z w) (k : Int) (v : Value) (hv : imGet k es = some v) (hown : IM w b es) (hm : a.eval m = .map (some b)) (hx : a.eval x = .int .i64 k)
    (h : wpList P ops Q rest (a.put o.dst (.tuple #[v, .bool true])) w) : wpList P ops Q (o :: rest) a w := by
  refine wpList_im_look hg m x hop ht hK hz k hown hm hx ?_
  rw [hv]
  exact h
theorem wpList_im_miss {ops : Array Oper} {rest : List Oper} {o : Oper} {a : Act} {Q : Exit → Act → World → Prop} (hg : o.guard = none) (m x : Operand) (hop : o.op = Op.lookup t m x true)
    (ht : P.underlying t = some (.map K E)) (hK : P.underlying K = some (.int .i64)) {z : Value} (hz : (zeroValue E).run P w = .ok z w) (k : Int) (hv : imGet k es = none) (hown : IM w b es) (hm : a.eval m = .map (some b)) (hx : a.eval x = .int .i64 k)
    (h : wpList P ops Q rest (a.put o.dst (.tuple #[z, .bool false])) w) : wpList P ops Q (o :: rest) a w := by
  refine wpList_im_look hg m x hop ht hK hz k hown hm hx ?_
  rw [hv]
  exact h
end
end Go.Proofs.Ytjcgadfmhfhbgaa.A
