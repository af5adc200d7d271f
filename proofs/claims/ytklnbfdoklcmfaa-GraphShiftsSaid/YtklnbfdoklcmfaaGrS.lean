/- GraphShifts, loop by loop, in plain words: a graph behind itself; no conditions. -/
import Derived.Test.YtklnbfdoklcmfaaGrB
import Derived.Test.YtklnbfdoklcmfaaAx21
namespace Go.Proofs.Ytklnbfdoklcmfaa.Plain
open Go.RowKit Go.Proofs.Ytklnbfdoklcmfaa.A Go.Proofs.YtklnbfdoklcmfaaW.PrintWords Go.Proofs.YtklnbfdoklcmfaaW.PrintLast Go.Proofs.YtklnbfdoklcmfaaW.PrintMore
set_option linter.unusedVariables false
set_option linter.unusedSimpArgs false
/-- A node, its Args moved by as many. -/
def shN (n : Nat) (m : S35) : S35 := ⟨m.f0, m.f1.map (fun a => a + (n : Int)), m.f2⟩
def shL (n : Nat) (l : List S35) : List S35 := l.map (shN n)
theorem shL_len (n : Nat) (l : List S35) : (shL n l).length = l.length := List.length_map _
theorem dbl_len (l : List S35) : (l ++ shL l.length l).length = l.length + l.length := by rw [List.length_append, shL_len]
theorem dbl_mem {l : List S35} {m : S35} (h : m ∈ l ++ shL l.length l) : ∃ m' ∈ l, m.f0 = m'.f0 ∧ m.f2 = m'.f2 := by
  rcases List.mem_append.mp h with h | h
  · exact ⟨m, h, rfl, rfl⟩
  · obtain ⟨m', h1, rfl⟩ := List.mem_map.mp h
    exact ⟨m', h1, rfl, rfl⟩
theorem gkey_eq {m m' : S35} (h0 : m.f0 = m'.f0) (h2 : m.f2 = m'.f2) : gkey m = gkey m' := by unfold gkey; rw [h0, h2]
theorem dbl_ok {l : List S35} (hG : GOk l) (h : l.length + l.length ≤ 24) : GOk (l ++ shL l.length l) := by
  have h0 := hG.pos
  refine ⟨by rw [dbl_len]; omega, by rw [dbl_len]; omega, fun j n hn => ?_, fun a ha b hb x hx hy => ?_⟩
  · by_cases c : j < l.length
    · rw [List.getElem?_append_left c] at hn
      exact hG.node j n hn
    · rw [List.getElem?_append_right (by omega)] at hn
      obtain ⟨hj, he⟩ := List.getElem?_eq_some_iff.mp hn
      rw [shL_len] at hj
      have e : n = shN l.length (l[j - l.length]) := by rw [← he]; simp [shL]
      obtain ⟨kd, k1, k2, k3, k4⟩ := nodeW_iff.mp (hG.node (j - l.length) _ (List.getElem?_eq_getElem hj))
      rw [e]
      refine nodeW_iff.mpr ⟨kd, k1, by show (((l[j - l.length].f1.map (fun a => a + (l.length : Int))).length : Nat) : Int) = kd.1; rw [List.length_map]; exact k2, k3, fun a ha => ?_⟩
      obtain ⟨a', h1, rfl⟩ := List.mem_map.mp ha
      have := k4 a' h1
      omega
  · obtain ⟨a', h1, h2, h3⟩ := dbl_mem ha
    obtain ⟨b', g1, g2, g3⟩ := dbl_mem hb
    rw [gkey_eq h2 h3] at hx
    rw [gkey_eq g2 g3] at hy
    rw [h3, g3]
    exact hG.like a' h1 b' g1 x hx hy
theorem dbl_chk {l : List S35} (hG : GOk l) : gchk (l ++ shL l.length l) = decide (((l ++ shL l.length l).length : Int) ≤ 24) := by
  have e := dbl_len l
  by_cases c : l.length + l.length ≤ 24
  · rw [gchk_iff.mpr (dbl_ok hG c), decide_eq_true (by omega)]
  · rw [decide_eq_false (by omega)]
    cases h : gchk (l ++ shL l.length l) with
    | false => rfl
    | true => have := (gchk_iff.mp h).le; omega
theorem dbl_prm (l : List S35) : prmF (l ++ shL l.length l) = prmF l := by
  refine strict_eq (prmF_spec _).1 (prmF_spec _).1 (fun x => ?_)
  rw [(prmF_spec _).2, (prmF_spec _).2, nms_mem, nms_mem]
  constructor
  · rintro ⟨n, hn, c, h⟩
    obtain ⟨m', h1, h2, h3⟩ := dbl_mem hn
    exact ⟨m', h1, by rw [← h2]; exact c, by rw [← h3]; exact h⟩
  · rintro ⟨n, hn, c, h⟩
    exact ⟨n, List.mem_append_left _ hn, c, h⟩
theorem filt_sh (n : Nat) (node : Int) : ∀ a : List Int, ((a.map (fun x => x + (n : Int))).filter fun x => x == node + (n : Int)).length = (a.filter fun x => x == node).length
  | [] => rfl
  | x :: r => by
    rw [List.map_cons]
    by_cases c : x = node
    · have e1 : (x + (n : Int) == node + (n : Int)) = true := beq_iff_eq.mpr (by omega)
      have e2 : (x == node) = true := beq_iff_eq.mpr c
      simp only [List.filter, e1, e2, List.length_cons, filt_sh n node r]
    · have e1 : (x + (n : Int) == node + (n : Int)) = false := beq_eq_false_iff_ne.mpr (by omega)
      have e2 : (x == node) = false := beq_eq_false_iff_ne.mpr c
      simp only [List.filter, e1, e2, filt_sh n node r]
theorem map_const_len (i : Int) : ∀ (a b : List Int), a.length = b.length → (a.map fun _ => i) = b.map fun _ => i
  | [], [], _ => rfl
  | [], _ :: _, h => by simp at h
  | _ :: _, [], h => by simp at h
  | _ :: a, _ :: b, h => by
    rw [List.map_cons, List.map_cons, map_const_len i a b (by simpa using h)]
theorem useG_sh (n : Nat) (node : Int) : ∀ (l : List S35) (i : Int), useG (node + (n : Int)) (i + (n : Int)) (shL n l) = (useG node i l).map (fun x => x + (n : Int))
  | [], i => rfl
  | m :: r, i => by
    show ((shN n m).f1.filter fun a => a == node + (n : Int)).map (fun _ => i + (n : Int)) ++ useG (node + (n : Int)) (i + (n : Int) + 1) (shL n r) = _
    rw [show i + (n : Int) + 1 = i + 1 + (n : Int) by omega, useG_sh n node r (i + 1), useG, List.map_append, List.map_map]
    congr 1
    exact map_const_len _ _ _ (filt_sh n node m.f1)
theorem dbl_use1 {l : List S35} (hG : GOk l) {node : Int} (h : node < l.length) : useG node 0 (l ++ shL l.length l) = useG node 0 l := by
  rw [useG_app]
  have : useG node (0 + (l.length : Int)) (shL l.length l) = [] := by
    refine useG_none (fun j n hn hm => ?_)
    obtain ⟨hj, he⟩ := List.getElem?_eq_some_iff.mp hn
    rw [shL_len] at hj
    have e : n = shN l.length (l[j]) := by rw [← he]; simp [shL]
    rw [e] at hm
    obtain ⟨a', h1, h2⟩ := List.mem_map.mp hm
    have := hG.args j _ (List.getElem?_eq_getElem hj) a' h1
    omega
  rw [this, List.append_nil]
theorem dbl_use2 {l : List S35} (hG : GOk l) {node : Int} (h : 0 ≤ node) : useG (node + (l.length : Int)) 0 (l ++ shL l.length l) = (useG node 0 l).map (fun x => x + (l.length : Int)) := by
  rw [useG_app, useG_big hG.args (by omega), List.nil_append, useG_sh]
theorem lvGo_nil (l : List S35) : ∀ (m : Nat) (S : List Int), (∀ x ∈ S, (m : Int) ≤ x) → lvGo l m S = []
  | 0, _, _ => rfl
  | m + 1, S, h => by
    rw [lvGo, if_neg (fun hm => by have := h _ hm; omega)]
    exact lvGo_nil l m S (fun x hx => by have := h x hx; omega)
theorem dbl_rd {l : List S35} {m : Nat} (h : m < l.length) : rd_T35 (l ++ shL l.length l) ((l.length + m : Nat) : Int) = shN l.length (rd_T35 l (m : Int)) := by
  rw [rdN (show l.length + m < (l ++ shL l.length l).length by rw [dbl_len]; omega), rdN h, List.getElem_append_right (by omega)]
  simp [shL]
theorem lvGo_sh {l : List S35} (hA : ArgsOk l) : ∀ (m : Nat) (S : List Int), m ≤ l.length → (∀ x ∈ S, 0 ≤ x) → lvGo (l ++ shL l.length l) (l.length + m) (S.map (fun x => x + (l.length : Int))) = (lvGo l m S).map (fun x => x + (l.length : Int))
  | 0, S, hm, hS => by
    rw [Nat.add_zero, lvGo_nil _ _ _ (fun x hx => by obtain ⟨y, hy, rfl⟩ := List.mem_map.mp hx; have := hS y hy; omega)]
    rfl
  | m + 1, S, hm, hS => by
    have hml : m < l.length := by omega
    have hin : (((l.length + m : Nat) : Int) ∈ S.map (fun x => x + (l.length : Int))) ↔ (m : Int) ∈ S := by
      rw [List.mem_map]
      constructor
      · rintro ⟨y, hy, e⟩
        have : y = (m : Int) := by omega
        rw [← this]; exact hy
      · intro h
        exact ⟨_, h, by omega⟩
    rw [show l.length + (m + 1) = (l.length + m) + 1 by omega, lvGo, lvGo]
    by_cases c : (m : Int) ∈ S
    · rw [if_pos (hin.mpr c), if_pos c, dbl_rd hml, List.map_cons]
      congr 1
      · omega
      · show lvGo _ _ (List.map _ S ++ List.map _ (rd_T35 l (m : Int)).f1) = _
        rw [← List.map_append]
        refine lvGo_sh hA m _ (by omega) (fun x hx => ?_)
        rcases List.mem_append.mp hx with hx | hx
        · exact hS x hx
        · exact (argsAt hA hx hml).1
    · rw [if_neg (fun h => c (hin.mp h)), if_neg c]
      exact lvGo_sh hA m S (by omega) hS
theorem dbl_live {l : List S35} (hG : GOk l) : (liveF (l ++ shL l.length l)).length = (liveF l).length := by
  have h0 := hG.pos
  have := lvGo_sh hG.args l.length [(l.length : Int) - 1] (Nat.le_refl _) (fun x hx => by simp at hx; omega)
  rw [List.map_cons, List.map_nil] at this
  unfold liveF
  rw [List.length_reverse, List.length_reverse, dbl_len, show (((l.length + l.length : Nat) : Int) - 1) = (l.length : Int) - 1 + (l.length : Int) by omega, this, List.length_map]
/-! ### the loops -/
theorem shifts_l2 (l : List S35) (hG : GOk l) (h24 : l.length + l.length ≤ 24) (node : Int) (d : Nat) : ∀ (k j : Nat), (useG node 0 l).length - j = d → j ≤ (useG node 0 l).length → d + 1200 ≤ k →
    fullerlaw10_GraphShifts.l2 k l true (l ++ shL l.length l) (useG node 0 l) (useG node 0 l) ((useG node 0 l).map (fun x => x + (l.length : Int))) (j : Int) = some true := by
  have hGa := dbl_ok hG h24
  have hul := useG_len hG node
  have hpl := prmF_len l
  have ck : ∀ m : List S35, graph_Check.f m = some (gchk m) := fun m => rfl
  induction d with
  | zero =>
    intro k j hd hj hk
    obtain ⟨k, rfl⟩ : ∃ q, k = q + 1 := ⟨k - 1, by omega⟩
    rw [fullerlaw10_GraphShifts.l2, if_neg (by omega), if_pos rfl, ck, gchk_iff.mpr hGa, Option.bind_some, if_pos rfl, same_f _ _ (by omega) k (by omega), Option.bind_some, if_pos (by simp), live_f, gchk_iff.mpr hGa, if_pos rfl, Option.bind_some, live_f, gchk_iff.mpr hG, if_pos rfl, Option.bind_some, dbl_live hG, if_pos rfl,
      params_f _ k (by omega), gchk_iff.mpr hGa, if_pos rfl, Option.bind_some, params_f _ k (by omega), gchk_iff.mpr hG, if_pos rfl, Option.bind_some, dbl_prm, same_f _ _ (by omega) k (by omega), Option.bind_some, decide_eq_true rfl]
  | succ d ih =>
    intro k j hd hj hk
    obtain ⟨k, rfl⟩ : ∃ q, k = q + 1 := ⟨k - 1, by omega⟩
    have hjl : j < (useG node 0 l).length := by omega
    obtain ⟨g, n, g1, g2, g3⟩ := useG_mem.mp (List.getElem_mem hjl)
    obtain ⟨hg, _⟩ := List.getElem?_eq_some_iff.mp g1
    have e : wrap64 ((useG node 0 l)[j] + (l.length : Int)) = (useG node 0 l)[j] + (l.length : Int) := w64 (by omega) (by omega)
    rw [fullerlaw10_GraphShifts.l2, if_pos (by omega), if_pos (by omega), if_pos (by rw [List.length_map]; omega), rd_lt (by rw [List.length_map]; omega), List.getElem_map, rd_lt hjl, e, if_pos rfl, w1n (x := j) (by omega)]
    clear e
    exact ih k (j + 1) (by omega) (by omega) (by omega)
theorem shifts_j3 (l : List S35) (hG : GOk l) (a1 : Int) (ha : -9223372036854775808 ≤ a1 ∧ a1 ≤ 9223372036854775807) (b : Bool) (hb : b = false → l.length + l.length ≤ 24 ∧ 0 ≤ a1 ∧ a1 < l.length) (k : Nat) (hk : 2000 ≤ k) :
    fullerlaw10_GraphShifts.j3 k l a1 true (l ++ shL l.length l) b = some true := by
  obtain ⟨k, rfl⟩ : ∃ q, k = q + 1 := ⟨k - 1, by omega⟩
  have ck : ∀ m : List S35, graph_Check.f m = some (gchk m) := fun m => rfl
  cases b with
  | true =>
    rw [fullerlaw10_GraphShifts.j3, if_pos rfl, if_pos rfl, ck, Option.bind_some, dbl_chk hG, beq_self_eq_true]
  | false =>
    obtain ⟨h24, h0, h1⟩ := hb rfl
    have hGa := dbl_ok hG h24
    have hul := useG_len hG a1
    rw [fullerlaw10_GraphShifts.j3, if_neg (by decide), uses_f _ _ k (by omega), gchk_iff.mpr hG, if_pos rfl, Option.bind_some, uses_f _ _ k (by omega), gchk_iff.mpr hGa, if_pos rfl, Option.bind_some, w64 (x := a1 + (l.length : Int)) (by omega) (by omega), uses_f _ _ k (by omega), gchk_iff.mpr hGa, if_pos rfl, Option.bind_some, dbl_use1 hG h1, dbl_use2 hG h0, if_pos (by rw [List.length_map])]
    exact shifts_l2 l hG h24 a1 (useG a1 0 l).length k 0 (by omega) (by omega) (by omega)
theorem shifts_l1 (l : List S35) (hG : GOk l) (a1 : Int) (x6 : List S35) (h6 : x6.length ≤ 100) (i : Nat) (hi : i < l.length) (M : Nat) (hn : ∀ k, M ≤ k → fullerlaw10_GraphShifts.l0 k l a1 true (x6 ++ [shN l.length l[i]]) (wrap64 ((i : Int) + 1)) = some true) (d : Nat) : ∀ (k j : Nat), l[i].f1.length - j = d → j ≤ l[i].f1.length → M + d + 1 ≤ k →
    fullerlaw10_GraphShifts.l1 k l a1 true x6 (i : Int) (j : Int) l[i].f0 ((l[i].f1.take j).map (fun a => a + (l.length : Int))) l[i].f2 = some true := by
  have h24 := hG.le
  have hlen := node_len (hG.node i _ (List.getElem?_eq_getElem hi))
  induction d with
  | zero =>
    intro k j hd hj hk
    obtain ⟨k, rfl⟩ : ∃ q, k = q + 1 := ⟨k - 1, by omega⟩
    rw [fullerlaw10_GraphShifts.l1, if_pos (by omega), if_pos (by omega), rdN hi, if_neg (by omega), if_pos (by omega), List.take_of_length_le (by omega)]
    exact hn k (by omega)
  | succ d ih =>
    intro k j hd hj hk
    obtain ⟨k, rfl⟩ : ∃ q, k = q + 1 := ⟨k - 1, by omega⟩
    have hjl : j < l[i].f1.length := by omega
    have hr := hG.args i _ (List.getElem?_eq_getElem hi) _ (List.getElem_mem hjl)
    have e : (l[i].f1.take j).map (fun a => a + (l.length : Int)) ++ [l[i].f1[j] + (l.length : Int)] = (l[i].f1.take (j + 1)).map (fun a => a + (l.length : Int)) := by
      rw [List.take_succ_eq_append_getElem hjl, List.map_append]
      rfl
    rw [fullerlaw10_GraphShifts.l1, if_pos (by omega), if_pos (by omega), rdN hi, if_pos (by omega), if_pos (by omega), if_pos (by rw [List.length_map, List.length_take]; omega), rd_lt hjl, w64 (x := l[i].f1[j] + (l.length : Int)) (by omega) (by omega), e, w1n (x := j) (by omega)]
    exact ih k (j + 1) (by omega) (by omega) (by omega)
theorem shifts_l0 (l : List S35) (hG : GOk l) (a1 : Int) (ha : -9223372036854775808 ≤ a1 ∧ a1 ≤ 9223372036854775807) (d : Nat) : ∀ (k i : Nat), l.length - i = d → i ≤ l.length → 10 * d + 2100 ≤ k →
    fullerlaw10_GraphShifts.l0 k l a1 true (l ++ shL l.length (l.take i)) (i : Int) = some true := by
  have h24 := hG.le
  induction d with
  | zero =>
    intro k i hd hi hk
    obtain ⟨k, rfl⟩ : ∃ q, k = q + 1 := ⟨k - 1, by omega⟩
    have e := dbl_len l
    rw [List.take_of_length_le (by omega), fullerlaw10_GraphShifts.l0, if_neg (by omega)]
    by_cases c : ((l ++ shL l.length l).length : Int) > 24
    · rw [if_pos c]
      exact shifts_j3 l hG a1 ha true (fun h => by cases h) k (by omega)
    · rw [if_neg c]
      by_cases c2 : a1 < 0
      · rw [if_pos c2]
        exact shifts_j3 l hG a1 ha true (fun h => by cases h) k (by omega)
      · rw [if_neg c2]
        exact shifts_j3 l hG a1 ha _ (fun h => by have := of_decide_eq_false h; omega) k (by omega)
  | succ d ih =>
    intro k i hd hi hk
    obtain ⟨k, rfl⟩ : ∃ q, k = q + 1 := ⟨k - 1, by omega⟩
    have hil : i < l.length := by omega
    have hlen := node_len (hG.node i _ (List.getElem?_eq_getElem hil))
    rw [fullerlaw10_GraphShifts.l0, if_pos (by omega), if_pos (by omega), rdN hil]
    have h6 : (l ++ shL l.length (l.take i)).length ≤ 100 := by rw [List.length_append, shL_len, List.length_take]; omega
    have := shifts_l1 l hG a1 _ h6 i hil (10 * d + 2100) (fun k hk => by
      have e : l ++ shL l.length (l.take i) ++ [shN l.length l[i]] = l ++ shL l.length (l.take (i + 1)) := by
        rw [List.take_succ_eq_append_getElem hil, List.append_assoc]
        unfold shL
        rw [List.map_append]
        rfl
      rw [e, w1n (x := i) (by omega)]
      exact ih k (i + 1) (by omega) (by omega) hk) l[i].f1.length k 0 (by omega) (by omega) (by omega)
    exact this
end Go.Proofs.Ytklnbfdoklcmfaa.Plain
