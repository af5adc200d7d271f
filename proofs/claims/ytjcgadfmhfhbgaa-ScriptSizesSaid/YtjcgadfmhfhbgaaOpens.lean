/- What a Go value of a statement's parameter reads as, kind by kind; no conditions. -/
import Derived.Test.YtjcgadfmhfhbgaaWSized
import Derived.Test.YtjcgadfmhfhbgaaWWords
import Derived.ChangeArms
import Derived.DataElems
import Derived.SizedLaws
namespace Go.Proofs.Ytjcgadfmhfhbgaa.Opens
open Go.ChangeShapes Go.WideShapes Go.Proofs.YtjcgadfmhfhbgaaW.PrintWords
def Opens {α : Type} (P : Program) (T : Nat) (d : Kd α) (G : α → Prop) : Prop :=
  ∀ {H : Type} {enc : TypeId × Value → H} {W : World} {base : Nat} {spare : Nat → Bool} {held : Bool} {fuel : Nat} {cs : List Value} {x : DataW H × List MemPlace},
    DataW.trod enc P W base spare held fuel T cs = some x → (∀ n ∈ x.1.weights P T, n ≤ reachBytes) → ∃ a, d.K W a cs ∧ G a
variable {P : Program} {T e B o : Nat} {α β : Type}
theorem opens_int {k : IntKind} (h : P.underlying T = some (.int k)) : Opens P T (Kd.int k) (fun n => (Lit.int k n).wf = true) := by
  intro H enc W base spare held fuel cs x hx _
  obtain ⟨n, rfl, _, hw⟩ := DataW.trod_int h hx
  exact ⟨n, rfl, hw⟩
theorem listed {Q : Nat → α → Prop} : ∀ (n : Nat), (∀ i, i < n → ∃ b, Q i b) → ∃ l : List α, l.length = n ∧ ∀ i b, l[i]? = some b → Q i b
  | 0, _ => ⟨[], rfl, fun i b h => by simp at h⟩
  | n + 1, h => by
    obtain ⟨l, hl, hq⟩ := listed n (fun i hi => h i (by omega))
    obtain ⟨b, hb⟩ := h n (by omega)
    refine ⟨l ++ [b], by simp [hl], fun i c hc => ?_⟩
    rcases Nat.lt_or_ge i n with hi | hi
    · rw [List.getElem?_append_left (by omega)] at hc
      exact hq i c hc
    · have hi' : i = n := by
        have := (List.getElem?_eq_some_iff.1 hc).1
        simp at this
        omega
      subst hi'
      rw [← hl, List.getElem?_concat_length] at hc
      injection hc with hc
      rw [hl] at *
      rwa [← hc]
theorem weightsAll_mem {H : Type} {ds : List (DataW H)} {d : DataW H} (h : d ∈ ds) : ∀ n ∈ d.weights P e, n ∈ DataW.weightsAll P e ds := by
  induction ds with
  | nil => cases h
  | cons d0 ds ih =>
    intro n hn
    simp only [DataW.weightsAll, List.mem_append]
    rcases List.mem_cons.1 h with rfl | h
    · exact .inl hn
    · exact .inr (ih h n hn)
theorem opens_slice {d : Kd α} {G : α → Prop} (ht : P.underlying T = some (.slice e)) (hc : P.cellsOf e = d.sz) (hB : P.bytesOf e = B) (h : Opens P e d G) :
    Opens P T (Kd.slice e d) (fun l => l.length * B ≤ 140737488351232 ∧ ∀ x ∈ l, G x) := by
  intro H enc W base spare held fuel cs x hx hw
  rcases DataW.trod_slice ht hx with ⟨rfl, rfl⟩ | ⟨a, len, cap, elems, rest, n, rfl, rfl, rfl, hb, hl, hm, hlen, hel, _, _⟩
  · exact ⟨[], ⟨none, 0, rfl, Nat.le_refl 0, Kd.C_nil _ _⟩, by simp, fun x hx => by cases hx⟩
  · simp only [DataW.weights, ht] at hw
    have each : ∀ i, i < len → ∃ b : α, (∃ c : List Value, c.length = d.sz ∧ d.K W b c ∧ ∀ j u, c[j]? = some u → W.cell? (a.add (i * d.sz + j)) = some u) ∧ G b := by
      intro i hi
      have hy : elems[i]? = some (elems[i]'(by omega)) := List.getElem?_eq_getElem (by omega)
      have h1 := (hel i hi).trans hy
      rw [hc, Option.bind_eq_some_iff] at h1
      obtain ⟨c, hcs, h2⟩ := h1
      obtain ⟨b, hK, hG⟩ := h h2 (fun m hm => hw m (List.mem_cons_of_mem _ (List.mem_append_left _ (weightsAll_mem (List.mem_map_of_mem (List.getElem_mem (by omega))) m hm))))
      obtain ⟨_, hcl, hcc⟩ := World.cells?_some hcs
      refine ⟨b, ⟨c, hcl, hK, fun j u hu => ?_⟩, hG⟩
      have hj : j < d.sz := by have := (List.getElem?_eq_some_iff.1 hu).1; omega
      rw [← Addr.add_add, hcc j hj, hu]
    obtain ⟨l, hll, hq⟩ := listed len each
    subst hlen
    refine ⟨l, ⟨some a, cap, by rw [hll], by omega, hll ▸ rfl, by simp only [maxLen] at hm; omega, fun hp => ⟨a, rfl, fun j p hj => ?_⟩⟩, ?_, ?_⟩
    · exact (hq j p hj).1
    · have h1 := hw _ List.mem_cons_self
      rw [hB, List.length_map, List.length_map] at h1
      have h2 : elems.length * B ≤ (elems.length + rest.length) * B := Nat.mul_le_mul_right _ (Nat.le_add_right _ _)
      have h3 : reachBytes = 140737488351232 := rfl
      rw [hll]
      omega
    · intro x hx
      obtain ⟨i, hi⟩ := List.getElem?_of_mem hx
      exact (hq i x hi).2
def OpensFs {α : Type} (P : Program) (o : Nat) (fs : List Field) (d : Kd α) (G : α → Prop) : Prop :=
  ∀ {H : Type} {enc : TypeId × Value → H} {W : World} {base : Nat} {spare : Nat → Bool} {held : Bool} {n : Nat} {cs : List Value} {xs : List (DataW H × List MemPlace)},
    xs.length = fs.length → (∀ (i : Nat) (f : Field), fs[i]? = some f → DataW.trod enc P W base spare held n f.type ((cs.drop f.offset).take (P.cellsOf f.type)) = xs[i]?) →
    (∀ m ∈ DataW.weightsEach P (fs.map (·.type)) (xs.map (·.1)), m ≤ reachBytes) → cs.length = o + d.sz → ∃ a, d.K W a (cs.drop o) ∧ G a
theorem opens_one {d : Kd α} {G : α → Prop} {f : Field} (ho : f.offset = o) (hc : P.cellsOf f.type = d.sz) (h : Opens P f.type d G) : OpensFs P o [f] d G := by
  intro H enc W base spare held n cs xs hl hx hw hcs
  match xs, hl with
  | [x], _ =>
    have h1 := hx 0 f rfl
    rw [ho, hc, List.take_of_length_le (by simp; omega)] at h1
    exact h h1 (fun m hm => hw m (by simp [DataW.weightsEach, hm]))
theorem opens_cons {d0 : Kd α} {d1 : Kd β} {G0 : α → Prop} {G1 : β → Prop} {f : Field} {fs : List Field} (ho : f.offset = o) (hc : P.cellsOf f.type = d0.sz) (h0 : Opens P f.type d0 G0) (h1 : OpensFs P (o + d0.sz) fs d1 G1) :
    OpensFs P o (f :: fs) (Kd.pair d0 d1) (fun x => G0 x.1 ∧ G1 x.2) := by
  intro H enc W base spare held n cs xs hl hx hw hcs
  match xs, hl with
  | x :: xs, hl =>
    have e0 := hx 0 f rfl
    rw [ho, hc] at e0
    have hcs' : cs.length = o + (d0.sz + d1.sz) := hcs
    obtain ⟨a, hK, hG⟩ := h0 e0 (fun m hm => hw m (by simp [DataW.weightsEach, hm]))
    obtain ⟨b, hK1, hG1⟩ := h1 (xs := xs) (by simpa using hl) (fun i g hg => hx (i + 1) g (by simpa using hg)) (fun m hm => hw m (by simp only [List.map_cons, DataW.weightsEach, List.mem_append]; exact .inr hm)) (by omega)
    exact ⟨(a, b), ⟨(cs.drop o).take d0.sz, cs.drop (o + d0.sz), by rw [← List.drop_drop, List.take_append_drop], hK, hK1⟩, hG, hG1⟩
theorem opens_struct {d : Kd α} {G : α → Prop} {fs : Array Field} (ht : P.underlying T = some (.struct fs)) (hc : P.cellsOf T = d.sz) (f : β → α) (g : α → β) (hg : ∀ a, f (g a) = a) (h : OpensFs P 0 fs.toList d G) :
    Opens P T (Kd.iso d f) (fun b => G (f b)) := by
  intro H enc W base spare held fuel cs x hx hw
  obtain ⟨xs, n, _, rfl, hl, hxl, hf⟩ := DataW.trod_struct ht hx
  simp only [DataW.weights, ht] at hw
  obtain ⟨a, hK, hG⟩ := h (xs := xs) (by simpa using hxl) (fun i f hf' => hf i f (by simpa using hf')) hw (by omega)
  refine ⟨g a, ?_, by show G (f (g a)); rw [hg]; exact hG⟩
  show d.K W (f (g a)) cs
  rw [hg]
  simpa using hK
theorem Opens.param {d : Kd α} {G : α → Prop} (h : Opens P T d G) {H : Type} {enc : TypeId × Value → H} {W : World} {base : Nat} {spare : Nat → Bool} {held : Bool} {v : Value} {dd : DataW H} {ps : List MemPlace} {ts : List TypeId} {ds : List (DataW H)} {j : Nat}
    (hsz : (DataW.weightsEach P ts ds).all (· ≤ reachBytes) = true) (ht : ts[j]? = some T) (hd : ds[j]? = some dd) (hv : DataW.Trod enc P W base spare held T v dd ps) : ∃ a, d.K W a v.cells.toList ∧ G a := by
  obtain ⟨fuel, hf⟩ := hv
  exact h hf (fun n hn => by
    have := List.all_eq_true.1 hsz n (DataW.weights_mem_each ht hd n hn)
    simpa using this)
theorem agg_of {P : Program} {W : World} {base : Nat} {v : Value} {fs : Array Field} (ht : P.underlying T = some (.struct fs)) (h : Value.okWide P W .any base T v) {l : List Value} (hc : v.cells.toList = l) : v = .agg l.toArray := by
  simp only [Value.okWide, ht] at h
  obtain ⟨cs, rfl, _⟩ := h
  subst hc
  simp [Value.cells]
theorem one_of {v : Value} {A : Option Addr} {n c : Nat} (h : v.cells.toList = [.slice A n c]) (hv : ∃ A n c, v = .slice A n c) : v = .slice A n c := by
  obtain ⟨A', n', c', rfl⟩ := hv
  simp [Value.cells] at h
  obtain ⟨rfl, rfl, rfl⟩ := h
  rfl
end Go.Proofs.Ytjcgadfmhfhbgaa.Opens
