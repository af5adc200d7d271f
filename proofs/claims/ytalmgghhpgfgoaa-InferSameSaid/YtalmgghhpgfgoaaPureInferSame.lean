/- For all graphs and numbers InferSame answers true; no conditions but the sizes that the statement names. -/
import Derived.Test.YtalmgghhpgfgoaaAx23
import Derived.Test.YtalmgghhpgfgoaaAx10
import Derived.Test.YtalmgghhpgfgoaaInfS
namespace Go.Proofs.Ytalmgghhpgfgoaa.Pure
open Go.RowKit Go.Proofs.Ytalmgghhpgfgoaa.A Go.Proofs.YtalmgghhpgfgoaaW.PrintWords Go.Proofs.YtalmgghhpgfgoaaW.PrintLast Go.Proofs.YtalmgghhpgfgoaaW.PrintMore Go.Proofs.Ytalmgghhpgfgoaa.Plain
set_option linter.unusedVariables false
set_option linter.unusedSimpArgs false
theorem awake_f (k : Nat) (hk : 300 ≤ k) : fullerlaw11_awake.f k = some true := at_rounds fullerlaw11_awake.mono hk (by decide +kernel)

/-- A constant is another number, a parameter has another name. -/
def newN (v c : Int) (n : S25) : S25 := ⟨n.f0, n.f1, if n.f0 = 3 then [v] else if n.f0 = 2 then Int.tmod (rd n.f2 0 + c) 8 :: n.f2.drop 1 else n.f2⟩
theorem nodeF_new (v c : Int) (hc : 0 ≤ c ∧ c ≤ 255) (n : S25) (i : Int) (hn : nodeW i n = true) (s : List (List Int)) : nodeF n.f0 (newN v c n).f2 s = nodeF n.f0 n.f2 s ∧ nodeW i (newN v c n) = true := by
  obtain ⟨kd, h1, h2, h3, h4⟩ := nodeW_iff.mp hn
  have w1 : numsW n.f0 n.f2 = true := by unfold numsW; rw [h1]; exact h3
  by_cases c3 : n.f0 = 3
  · have e : (newN v c n).f2 = [v] := by unfold newN; simp only; rw [if_pos c3]
    have hk : kd = (0, 1) := by rw [c3] at h1; have : gkind 3 = some (0, 1) := rfl; rw [this] at h1; exact (Option.some.inj h1).symm
    refine ⟨?_, nodeW_iff.mpr ⟨kd, h1, h2, by rw [e, hk]; rfl, h4⟩⟩
    have w2 : numsW n.f0 [v] = true := by unfold numsW; rw [h1, hk]; rfl
    rw [e]
    unfold nodeF
    rw [w1, w2, c3]
    rfl
  · by_cases c2 : n.f0 = 2
    · have e : (newN v c n).f2 = Int.tmod (rd n.f2 0 + c) 8 :: n.f2.drop 1 := by unfold newN; simp only; rw [if_neg c3, if_pos c2]
      have hk : kd = (0, -2) := by rw [c2] at h1; have : gkind 2 = some (0, -2) := rfl; rw [this] at h1; exact (Option.some.inj h1).symm
      rw [hk] at h3
      unfold numsB at h3
      rw [if_pos rfl] at h3
      simp only [Bool.and_eq_true, decide_eq_true_eq] at h3
      have m0 := Int.tmod_nonneg 8 (show 0 ≤ rd n.f2 0 + c by omega)
      have m1 := Int.tmod_lt_of_pos (rd n.f2 0 + c) (show (0 : Int) < 8 by omega)
      have w3 : numsB (-2) (Int.tmod (rd n.f2 0 + c) 8 :: n.f2.drop 1) = true := by
        unfold numsB
        rw [if_pos rfl]
        rw [rd0, decide_eq_true m0, decide_eq_true m1, decide_eq_true (show 0 < (Int.tmod (rd n.f2 0 + c) 8 :: n.f2.drop 1).length by simp), List.drop_succ_cons, List.drop_zero, h3.2]
        rfl
      have w2 : numsW n.f0 (Int.tmod (rd n.f2 0 + c) 8 :: n.f2.drop 1) = true := by unfold numsW; rw [h1, hk]; exact w3
      refine ⟨?_, nodeW_iff.mpr ⟨kd, h1, h2, by rw [e, hk]; exact w3, h4⟩⟩
      rw [e]
      unfold nodeF
      rw [w1, w2, c2]
      rfl
    · have e : newN v c n = n := by unfold newN; rw [if_neg c3, if_neg c2]
      rw [e]
      exact ⟨rfl, hn⟩
theorem shpF_new (v c : Int) (hc : 0 ≤ c ∧ c ≤ 255) : ∀ (l : List S25) (out : List (List Int)) (i : Int) (j : Int), (∀ (q : Nat) n, l[q]? = some n → nodeW (j + q) n = true) → shpF (l.map (newN v c)) out i = shpF l out i
  | [], out, i, j, h => rfl
  | n :: r, out, i, j, h => by
    have h0 := h 0 n rfl
    have e : nodeAt out (newN v c n) = nodeAt out n := (nodeF_new v c hc n _ h0 (n.f1.map (rd_L1 out))).1
    rw [List.map_cons, shpF, shpF, e]
    rw [shpF_new v c hc r _ _ (j + 1) fun q m hm => by have := h (q + 1) m (by simpa using hm); rwa [show j + ((q + 1 : Nat) : Int) = j + 1 + (q : Int) by omega] at this]
theorem gkey_new {v c : Int} (hc : 0 ≤ c ∧ c ≤ 255) {n m : S25} {i j : Int} (hn : nodeW i n = true) (hm : nodeW j m = true) (a : Int) (h1 : gkey (newN v c n) = some a) (h2 : gkey (newN v c m) = some a) : ∃ b, gkey n = some b ∧ gkey m = some b := by
  have two : ∀ {i : Int} {n : S25}, nodeW i n = true → n.f0 = 2 → 0 ≤ rd n.f2 0 ∧ rd n.f2 0 < 8 := by
    intro i n h h2
    obtain ⟨kd, h1, _, h3, _⟩ := nodeW_iff.mp h
    have hk : kd = (0, -2) := by rw [h2] at h1; have : gkind 2 = some (0, -2) := rfl; rw [this] at h1; exact (Option.some.inj h1).symm
    rw [hk] at h3
    unfold numsB at h3
    rw [if_pos rfl] at h3
    simp only [Bool.and_eq_true, decide_eq_true_eq] at h3
    exact ⟨h3.1.1.2, h3.1.2⟩
  have key : ∀ {i : Int} {n : S25}, nodeW i n = true → gkey (newN v c n) = some a → (n.f0 = 1 ∧ a = -1 ∧ gkey n = some (-1)) ∨ (n.f0 = 2 ∧ a = Int.tmod (rd n.f2 0 + c) 8 ∧ gkey n = some (rd n.f2 0) ∧ 0 ≤ rd n.f2 0 ∧ rd n.f2 0 < 8) := by
    intro i n hn h
    unfold gkey at h ⊢
    show (n.f0 = 1 ∧ a = -1 ∧ _) ∨ _
    by_cases c1 : n.f0 = 1
    · rw [if_pos (show (newN v c n).f0 = 1 from c1)] at h
      exact .inl ⟨c1, (Option.some.inj h).symm, if_pos c1⟩
    · rw [if_neg (show ¬ (newN v c n).f0 = 1 from c1)] at h
      by_cases c2 : n.f0 = 2
      · rw [if_pos (show (newN v c n).f0 = 2 from c2)] at h
        have e : (newN v c n).f2 = Int.tmod (rd n.f2 0 + c) 8 :: n.f2.drop 1 := by unfold newN; simp only; rw [if_neg (by omega), if_pos c2]
        rw [e] at h
        exact .inr ⟨c2, (Option.some.inj h).symm, by rw [if_neg c1, if_pos c2], two hn c2⟩
      · rw [if_neg (show ¬ (newN v c n).f0 = 2 from c2)] at h
        cases h
  have pos : ∀ z : Int, 0 ≤ z → Int.tmod (z + c) 8 = (z + c) % 8 := fun z hz => Int.tmod_eq_emod_of_nonneg (by omega)
  rcases key hn h1 with ⟨a1, a2, a3⟩ | ⟨a1, a2, a3, a4, a5⟩ <;> rcases key hm h2 with ⟨b1, b2, b3⟩ | ⟨b1, b2, b3, b4, b5⟩
  · exact ⟨-1, a3, b3⟩
  · rw [pos _ b4] at b2; omega
  · rw [pos _ a4] at a2; omega
  · rw [pos _ b4] at b2
    rw [pos _ a4] at a2
    refine ⟨rd n.f2 0, a3, ?_⟩
    rw [b3]
    have : rd n.f2 0 = rd m.f2 0 := by omega
    rw [this]
theorem new_ok (v c : Int) (hc : 0 ≤ c ∧ c ≤ 255) (l : List S25) (hG : GOk l) : GOk (l.map (newN v c)) := by
  refine ⟨by simpa using hG.pos, by simpa using hG.le, fun j x hx => ?_, fun x hx y hy a h1 h2 => ?_⟩
  · rw [List.getElem?_map] at hx
    cases hn : l[j]? with
    | none => rw [hn] at hx; cases hx
    | some n =>
      rw [hn] at hx
      obtain rfl := Option.some.inj hx
      exact (nodeF_new v c hc n _ (hG.node j n hn) []).2
  · obtain ⟨n, hn, rfl⟩ := List.mem_map.mp hx
    obtain ⟨m, hm, rfl⟩ := List.mem_map.mp hy
    obtain ⟨_, _, _, wn⟩ := hG.mem hn
    obtain ⟨_, _, _, wm⟩ := hG.mem hm
    obtain ⟨b, b1, b2⟩ := gkey_new hc wn wm a h1 h2
    have e := hG.like n hn m hm b b1 b2
    have ef : n.f0 = m.f0 ∨ (n.f0 = 1 ∧ m.f0 = 2) ∨ (n.f0 = 2 ∧ m.f0 = 1) := by
      have : ∀ {z : S25} {q : Int}, gkey z = some q → z.f0 = 1 ∨ z.f0 = 2 := by
        intro z q h
        unfold gkey at h
        split at h
        · rename_i g; exact .inl g
        · split at h
          · rename_i g; exact .inr g
          · cases h
      rcases this b1 with g | g <;> rcases this b2 with g' | g'
      · exact .inl (by omega)
      · exact .inr (.inl ⟨g, g'⟩)
      · exact .inr (.inr ⟨g, g'⟩)
      · exact .inl (by omega)
    rcases ef with g | g | g
    · unfold newN
      simp only
      rw [g, e]
    · obtain ⟨kd, k1, _, k3, _⟩ := nodeW_iff.mp wm
      have hk : kd = (0, -2) := by rw [g.2] at k1; have : gkind 2 = some (0, -2) := rfl; rw [this] at k1; exact (Option.some.inj k1).symm
      rw [hk] at k3
      unfold numsB at k3
      rw [if_pos rfl] at k3
      simp only [Bool.and_eq_true, decide_eq_true_eq] at k3
      unfold gkey at b1 b2
      rw [if_pos g.1] at b1
      rw [if_neg (by omega), if_pos g.2] at b2
      have := Option.some.inj b1
      have := Option.some.inj b2
      omega
    · obtain ⟨kd, k1, _, k3, _⟩ := nodeW_iff.mp wn
      have hk : kd = (0, -2) := by rw [g.1] at k1; have : gkind 2 = some (0, -2) := rfl; rw [this] at k1; exact (Option.some.inj k1).symm
      rw [hk] at k3
      unfold numsB at k3
      rw [if_pos rfl] at k3
      simp only [Bool.and_eq_true, decide_eq_true_eq] at k3
      unfold gkey at b1 b2
      rw [if_neg (by omega), if_pos g.1] at b1
      rw [if_pos g.2] at b2
      have := Option.some.inj b1
      have := Option.some.inj b2
      omega
theorem shp_new (v c : Int) (hc : 0 ≤ c ∧ c ≤ 255) (l : List S25) (hG : GOk l) : shp (l.map (newN v c)) = shp l := by
  unfold shp
  rw [if_pos (gchk_iff.mpr hG), if_pos (gchk_iff.mpr (new_ok v c hc l hG))]
  exact shpF_new v c hc l [] 0 0 fun q n h => by have := hG.node q n h; rwa [show (0 : Int) + (q : Int) = (q : Int) by omega]
theorem w1n {x : Nat} (h : x < 1000000) : wrap64 ((x : Int) + 1) = ((x + 1 : Nat) : Int) := by rw [w64 (by omega) (by omega)]; omega
theorem same_l0 (l : List S25) (v c : Int) (hG : GOk l) (hc : 0 ≤ c ∧ c ≤ 255) (d : Nat) : ∀ (k i : Nat) (m : List S25), l.length - i = d → i ≤ l.length → d + 500 ≤ k → m = (l.take i).map (newN v c) →
    fullerlaw11_InferSame.l0 k l v c true m (i : Int) = some true := by
  have h24 := hG.le
  induction d with
  | zero =>
    intro k i m hd hi hk hm
    obtain ⟨k, rfl⟩ : ∃ q, k = q + 1 := ⟨k - 1, by omega⟩
    rw [List.take_of_length_le (by omega)] at hm
    subst hm
    have s1 := shp_len l
    have s2 := shp_all l
    rw [fullerlaw11_InferSame.l0, if_neg (by omega), shapes_f _ _ (by omega), shapes_f _ _ (by omega), shp_new v c hc l hG]
    simp only [Option.bind_some, if_true]
    rw [same11_f _ _ (by omega) (fun x hx => by have := chk_len (s2 x hx); omega) _ (by omega)]
    simp
  | succ d ih =>
    intro k i m hd hi hk hm
    obtain ⟨k, rfl⟩ : ∃ q, k = q + 1 := ⟨k - 1, by omega⟩
    have hil : i < l.length := by omega
    have hw := hG.node i _ (List.getElem?_eq_getElem hil)
    have hln := node_len hw
    have hml : m.length = i := by rw [hm]; simp; omega
    have step : ∀ x, x = newN v c l[i] → fullerlaw11_InferSame.l0 k l v c true (m ++ [x]) (wrap64 ((i : Int) + 1)) = some true := by
      intro x hx
      rw [w1n (x := i) (Nat.lt_of_lt_of_le hil (Nat.le_trans h24 (by decide)))]
      refine ih k (i + 1) _ (by omega) (by omega) (by omega) ?_
      rw [hx, hm, List.take_succ_eq_append_getElem hil, List.map_append]
      rfl
    rw [fullerlaw11_InferSame.l0, if_pos (by omega), if_pos (by omega), rdN hil]
    by_cases c3 : l[i].f0 = 3
    · rw [if_pos c3]
      simp only [Option.bind_some]
      rw [if_neg (by omega), if_pos (by omega)]
      exact step _ (by unfold newN; rw [if_pos c3])
    · rw [if_neg c3]
      by_cases c2 : l[i].f0 = 2
      · obtain ⟨kd, k1, _, k3, _⟩ := nodeW_iff.mp hw
        have hk : kd = (0, -2) := by rw [c2] at k1; have : gkind 2 = some (0, -2) := rfl; rw [this] at k1; exact (Option.some.inj k1).symm
        rw [hk] at k3
        unfold numsB at k3
        rw [if_pos rfl] at k3
        simp only [Bool.and_eq_true, decide_eq_true_eq] at k3
        rw [if_pos c2, if_pos (by omega)]
        simp only [Option.bind_some]
        rw [if_pos (by omega), w64 (x := c) (by omega) (by omega), w64 (by omega) (by omega)]
        rw [if_pos (by simp; omega), if_pos (by omega)]
        exact step _ (by unfold newN; rw [if_neg c3, if_pos c2]; rfl)
      · rw [if_neg c2, if_pos (by omega)]
        exact step _ (by unfold newN; rw [if_neg c3, if_neg c2])
theorem InferSame : fullerlaw11_InferSame.Pure := by
  intro l v c hl hv hc
  have hm : l.length ≤ 9223372036854775806 := by omega
  have hc' : 0 ≤ c ∧ c ≤ 255 := by
    simp [Lit.wf, IntKind.min, IntKind.max, IntKind.signed, IntKind.bits] at hc
    omega
  refine ⟨l.length + 1000, ?_⟩
  unfold fullerlaw11_InferSame.f
  rw [awake_f _ (by omega), few10_f l hm _ (by omega)]
  simp only [Option.bind_some]
  obtain ⟨k, hk⟩ : ∃ q, l.length + 1000 = q + 1 := ⟨l.length + 999, rfl⟩
  have out : fullerlaw11_InferSame.j0 (l.length + 1000) l v c true true = some true := by
    rw [hk, fullerlaw11_InferSame.j0, if_pos rfl]
  cases hf : fewG l with
  | false => rw [if_neg (by decide)]; exact out
  | true =>
    rw [if_pos rfl, show graph_Check.f l = some (gchk l) from rfl]
    simp only [Option.bind_some]
    cases hg : gchk l with
    | false => exact out
    | true =>
      have hG := gchk_iff.mp hg
      have h24 := hG.le
      show fullerlaw11_InferSame.j0 (l.length + 1000) l v c true false = some true
      rw [hk, fullerlaw11_InferSame.j0, if_neg (by decide)]
      have := same_l0 l v c hG hc' l.length k 0 [] (by omega) (by omega) (by omega) rfl
      exact this
end Go.Proofs.Ytalmgghhpgfgoaa.Pure
