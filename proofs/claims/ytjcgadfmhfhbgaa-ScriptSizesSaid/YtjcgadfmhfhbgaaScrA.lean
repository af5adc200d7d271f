/- Commands as bytes, in plain words: which have some, what they are written as, what bytes are read as; no conditions. -/
import Derived.Test.YtjcgadfmhfhbgaaWireA
import Derived.Test.YtjcgadfmhfhbgaaAx4
import Derived.Test.YtjcgadfmhfhbgaaAx7
import Derived.Test.YtjcgadfmhfhbgaaAx10
namespace Go.Proofs.Ytjcgadfmhfhbgaa.Plain
open Go.RowKit Go.Proofs.Ytjcgadfmhfhbgaa.A Go.Proofs.YtjcgadfmhfhbgaaW.PrintWords Go.Proofs.YtjcgadfmhfhbgaaW.PrintLast Go.Proofs.YtjcgadfmhfhbgaaW.PrintMore
set_option linter.unusedVariables false
set_option linter.unusedSimpArgs false
theorem byte_iff {n : Int} : byteOk n = true ↔ 0 ≤ n ∧ n ≤ 255 := by simp [byteOk]
def OKC (x : S30) : Prop :=
  (∃ s g t, x = ⟨2, s, g, t, ⟨0, 0, 0, 0⟩, 0, 0⟩ ∧ byteOk s = true ∧ gchk g = true ∧ ((t.f0 = [] ∧ t.f1 = []) ∨ tchk t.f0 t.f1 = true)) ∨
  (∃ k s, x = ⟨k, s, [], ⟨[], []⟩, ⟨0, 0, 0, 0⟩, 0, 0⟩ ∧ (k = 4 ∨ k = 5) ∧ byteOk s = true) ∨
  (∃ s o b, x = ⟨3, s, [], ⟨[], []⟩, o, b, 0⟩ ∧ byteOk s = true ∧ byteOk o.f0 = true ∧ byteOk b = true) ∨
  (∃ p, x = ⟨8, 0, [], ⟨[], []⟩, ⟨0, 0, 0, 0⟩, 0, p⟩ ∧ byteOk p = true) ∨
  (∃ k, x = ⟨k, 0, [], ⟨[], []⟩, ⟨0, 0, 0, 0⟩, 0, 0⟩ ∧ (k = 1 ∨ k = 6 ∨ k = 7))
def smallC (x : S30) : Prop := x.f2.length ≤ 1000000000 ∧ x.f3.f0.length ≤ 1000000000 ∧ x.f3.f1.length ≤ 1000000000
theorem empty_f (s d : List Int) (hs : s.length ≤ 1000000000) (hd : d.length ≤ 1000000000) : script_empty.f s d = some (decide (s = [] ∧ d = [])) := by
  unfold script_empty.f
  rw [w64 (by omega) (by omega)]
  congr 1
  cases s with
  | cons a s => simp; omega
  | nil => cases d with
    | cons a d => simp; omega
    | nil => rfl
theorem fits2 (s p : Int) : script_fits.f [s, p] = some (byteOk s && byteOk p) := by simp [script_fits.f]
theorem end_f (rs o0 o1 o2 o3 rb rp : Int) (rg : List S48) (r3 r4 : List Int) (s p : Int) (h3 : r3.length ≤ 1000000000) (h4 : r4.length ≤ 1000000000) :
    ∃ b, chkEnd rs o0 o1 o2 o3 rb rp rg r3 r4 s p = some b ∧ (b = true ↔ rs = 0 ∧ (o0 = 0 ∧ o1 = 0 ∧ o2 = 0 ∧ o3 = 0) ∧ rb = 0 ∧ rp = 0 ∧ rg = [] ∧ (r3 = [] ∧ r4 = []) ∧ byteOk s = true ∧ byteOk p = true) := by
  unfold chkEnd
  rw [empty_f r3 r4 h3 h4, fits2]
  by_cases c1 : rs = 0
  · rw [if_pos c1]
    by_cases c2 : o0 = 0 ∧ o1 = 0 ∧ o2 = 0 ∧ o3 = 0
    · rw [if_pos c2]
      by_cases c3 : rb = 0
      · rw [if_pos c3]
        by_cases c4 : rp = 0
        · rw [if_pos c4]
          by_cases c5 : rg = []
          · rw [if_pos c5]
            simp only [Option.bind_some, decide_eq_true_eq]
            by_cases c6 : r3 = [] ∧ r4 = []
            · rw [if_pos c6]
              exact ⟨_, rfl, by rw [Bool.and_eq_true]; exact ⟨fun h => ⟨c1, c2, c3, c4, c5, c6, h⟩, fun h => h.2.2.2.2.2.2⟩⟩
            · rw [if_neg c6]
              exact ⟨_, rfl, ⟨fun h => (by cases h), fun h => absurd h.2.2.2.2.2.1 c6⟩⟩
          · rw [if_neg c5]
            exact ⟨_, rfl, ⟨fun h => (by cases h), fun h => absurd h.2.2.2.2.1 c5⟩⟩
        · rw [if_neg c4]
          exact ⟨_, rfl, ⟨fun h => (by cases h), fun h => absurd h.2.2.2.1 c4⟩⟩
      · rw [if_neg c3]
        exact ⟨_, rfl, ⟨fun h => (by cases h), fun h => absurd h.2.2.1 c3⟩⟩
    · rw [if_neg c2]
      exact ⟨_, rfl, ⟨fun h => (by cases h), fun h => absurd h.2.1 c2⟩⟩
  · rw [if_neg c1]
    exact ⟨_, rfl, ⟨fun h => (by cases h), fun h => absurd h.1 c1⟩⟩
theorem gcheck_f (l : List S48) : graph_Check.f l = some (gchk l) := rfl
theorem chk_ex (x : S30) (hx : smallC x) (k : Nat) (hk : 5 ≤ k) : ∃ b, chkS k x = some b ∧ (b = true ↔ OKC x) := by
  obtain ⟨a0, a1, g, ⟨s, d⟩, ⟨o0, o1, o2, o3⟩, bu, pa⟩ := x
  obtain ⟨_, hs, hd⟩ := hx
  simp only at hs hd
  have he := end_f
  unfold chkS script_Check.f
  simp only
  by_cases h2 : a0 = 2
  · subst h2
    rw [if_pos rfl, gcheck_f]
    simp only [Option.bind_some]
    cases hg : gchk g with
    | false =>
      refine ⟨false, rfl, ⟨fun h => (by cases h), fun h => ?_⟩⟩
      rcases h with ⟨s', g', t', e, h1, h2, h3⟩ | ⟨k', s', e, h1, _⟩ | ⟨s', o', b', e, _⟩ | ⟨p', e, _⟩ | ⟨k', e, h1⟩
      · injection e with e0 e1 e2
        subst e2
        rw [hg] at h2; cases h2
      · injection e with e0; omega
      · injection e with e0; omega
      · injection e with e0; omega
      · injection e with e0; omega
    | true =>
      rw [if_pos rfl, empty_f s d hs hd, tcheck_f s d k hk]
      simp only [Option.bind_some, decide_eq_true_eq]
      obtain ⟨b, hb, hbi⟩ := he 0 o0 o1 o2 o3 bu pa [] [] [] a1 pa (by simp) (by simp)
      have hmain : ∀ t : Bool, (t = true ↔ ((s = [] ∧ d = []) ∨ tchk s d = true)) → ∃ q, (if t = true then chkEnd 0 o0 o1 o2 o3 bu pa [] [] [] a1 pa else some false) = some q ∧ (q = true ↔ OKC ⟨2, a1, g, ⟨s, d⟩, ⟨o0, o1, o2, o3⟩, bu, pa⟩) := by
        intro t ht
        cases t with
        | false =>
          refine ⟨false, rfl, ⟨fun h => (by cases h), fun h => ?_⟩⟩
          rcases h with ⟨s', g', t', e, h1, h2, h3⟩ | ⟨k', s', e, h1, _⟩ | ⟨s', o', b', e, _⟩ | ⟨p', e, _⟩ | ⟨k', e, h1⟩
          · injection e with e0 e1 e2 e3
            subst e3
            exact absurd (ht.mpr h3) (by decide)
          · injection e with e0; omega
          · injection e with e0; omega
          · injection e with e0; omega
          · injection e with e0; omega
        | true =>
          rw [if_pos rfl, hb]
          refine ⟨b, rfl, hbi.trans ⟨fun h => ?_, fun h => ?_⟩⟩
          · obtain ⟨_, ⟨rfl, rfl, rfl, rfl⟩, rfl, rfl, _, _, hA, _⟩ := h
            exact .inl ⟨a1, g, ⟨s, d⟩, rfl, hA, hg, ht.mp rfl⟩
          · rcases h with ⟨s', g', t', e, h1, h2, h3⟩ | ⟨k', s', e, h1, _⟩ | ⟨s', o', b', e, _⟩ | ⟨p', e, _⟩ | ⟨k', e, h1⟩
            · injection e with e0 e1 e2 e3 e4 e5 e6
              injection e4 with q0 q1 q2 q3
              subst e1 e5 e6
              exact ⟨rfl, ⟨q0, q1, q2, q3⟩, rfl, rfl, rfl, ⟨rfl, rfl⟩, h1, rfl⟩
            · injection e with e0; omega
            · injection e with e0; omega
            · injection e with e0; omega
            · injection e with e0; omega
      by_cases hE : s = [] ∧ d = []
      · rw [if_pos hE, Option.bind_some]
        exact hmain true ⟨fun _ => .inl hE, fun _ => rfl⟩
      · rw [if_neg hE, Option.bind_some]
        exact hmain (tchk s d) ⟨fun h => .inr h, fun h => h.elim (fun h => absurd h hE) id⟩
  · rw [if_neg h2]
    have hno : ∀ q : Bool, q = false → (¬ OKC ⟨a0, a1, g, ⟨s, d⟩, ⟨o0, o1, o2, o3⟩, bu, pa⟩) → ∃ b, some q = some b ∧ (b = true ↔ OKC ⟨a0, a1, g, ⟨s, d⟩, ⟨o0, o1, o2, o3⟩, bu, pa⟩) := fun q hq hn => ⟨q, rfl, by subst hq; exact ⟨fun h => (by cases h), fun h => absurd h hn⟩⟩
    by_cases h4 : a0 = 4 ∨ a0 = 5
    · rw [if_pos h4]
      obtain ⟨b, hb, hbi⟩ := he 0 o0 o1 o2 o3 bu pa g s d a1 pa hs hd
      refine ⟨b, hb, hbi.trans ⟨fun h => ?_, fun h => ?_⟩⟩
      · obtain ⟨_, ⟨rfl, rfl, rfl, rfl⟩, rfl, rfl, rfl, ⟨rfl, rfl⟩, hA, _⟩ := h
        exact .inr (.inl ⟨a0, a1, rfl, h4, hA⟩)
      · rcases h with ⟨s', g', t', e, h1, h2', h3⟩ | ⟨k', s', e, h1, hA⟩ | ⟨s', o', b', e, _⟩ | ⟨p', e, _⟩ | ⟨k', e, h1⟩
        · injection e with e0; omega
        · injection e with e0 e1 e2 e3 e4 e5 e6
          injection e4 with q0 q1 q2 q3
          injection e3 with r0 r1
          subst e1 e2 e5 e6
          exact ⟨rfl, ⟨q0, q1, q2, q3⟩, rfl, rfl, rfl, ⟨r0, r1⟩, hA, rfl⟩
        · injection e with e0; omega
        · injection e with e0; omega
        · injection e with e0; omega
    · rw [if_neg h4]
      by_cases h3 : a0 = 3
      · subst h3
        rw [if_pos rfl, fits2, Option.bind_some]
        have hc : ∀ h : OKC ⟨3, a1, g, ⟨s, d⟩, ⟨o0, o1, o2, o3⟩, bu, pa⟩, (g = [] ∧ (s = [] ∧ d = []) ∧ pa = 0) ∧ byteOk a1 = true ∧ byteOk o0 = true ∧ byteOk bu = true := by
          intro h
          rcases h with ⟨s', g', t', e, h1, h2', h3⟩ | ⟨k', s', e, h1, hA⟩ | ⟨s', o', b', e, hA⟩ | ⟨p', e, _⟩ | ⟨k', e, h1⟩
          · injection e with e0; omega
          · injection e with e0; omega
          · injection e with e0 e1 e2 e3 e4 e5 e6
            injection e3 with r0 r1
            subst e1 e2 e4 e5 e6
            exact ⟨⟨rfl, ⟨r0, r1⟩, rfl⟩, hA⟩
          · injection e with e0; omega
          · injection e with e0; omega
        cases hq : byteOk o0 && byteOk bu with
        | false =>
          rw [if_neg (by decide)]
          refine ⟨false, rfl, ⟨fun h => (by cases h), fun h => ?_⟩⟩
          obtain ⟨_, _, q1, q2⟩ := hc h
          rw [q1, q2] at hq; cases hq
        | true =>
          rw [if_pos rfl]
          rw [Bool.and_eq_true] at hq
          obtain ⟨b, hb, hbi⟩ := he 0 0 0 0 0 0 pa g s d a1 pa hs hd
          refine ⟨b, hb, hbi.trans ⟨fun h => ?_, fun h => ?_⟩⟩
          · obtain ⟨_, _, _, rfl, rfl, ⟨rfl, rfl⟩, hA, _⟩ := h
            exact .inr (.inr (.inl ⟨a1, ⟨o0, o1, o2, o3⟩, bu, rfl, hA, hq.1, hq.2⟩))
          · obtain ⟨⟨q0, q1, q2⟩, q3, _⟩ := hc h
            exact ⟨rfl, ⟨rfl, rfl, rfl, rfl⟩, rfl, q2, q0, q1, q3, by rw [q2]; rfl⟩
      · rw [if_neg h3]
        by_cases h8 : a0 = 8
        · subst h8
          rw [if_pos rfl]
          obtain ⟨b, hb, hbi⟩ := he a1 o0 o1 o2 o3 bu 0 g s d a1 pa hs hd
          refine ⟨b, hb, hbi.trans ⟨fun h => ?_, fun h => ?_⟩⟩
          · obtain ⟨rfl, ⟨rfl, rfl, rfl, rfl⟩, rfl, _, rfl, ⟨rfl, rfl⟩, _, hA⟩ := h
            exact .inr (.inr (.inr (.inl ⟨pa, rfl, hA⟩)))
          · rcases h with ⟨s', g', t', e, h1, h2', h3⟩ | ⟨k', s', e, h1, hA⟩ | ⟨s', o', b', e, hA⟩ | ⟨p', e, hA⟩ | ⟨k', e, h1⟩
            · injection e with e0; omega
            · injection e with e0; omega
            · injection e with e0; omega
            · injection e with e0 e1 e2 e3 e4 e5 e6
              injection e4 with q0 q1 q2 q3
              injection e3 with r0 r1
              subst e1 e2 e5 e6
              exact ⟨rfl, ⟨q0, q1, q2, q3⟩, rfl, rfl, rfl, ⟨r0, r1⟩, rfl, hA⟩
            · injection e with e0; omega
        · rw [if_neg h8]
          by_cases h1 : a0 = 1 ∨ a0 = 6 ∨ a0 = 7
          · rw [if_pos h1]
            obtain ⟨b, hb, hbi⟩ := he a1 o0 o1 o2 o3 bu pa g s d a1 pa hs hd
            refine ⟨b, hb, hbi.trans ⟨fun h => ?_, fun h => ?_⟩⟩
            · obtain ⟨rfl, ⟨rfl, rfl, rfl, rfl⟩, rfl, rfl, rfl, ⟨rfl, rfl⟩, _, _⟩ := h
              exact .inr (.inr (.inr (.inr ⟨a0, rfl, h1⟩)))
            · rcases h with ⟨s', g', t', e, h1', h2', h3⟩ | ⟨k', s', e, h1', hA⟩ | ⟨s', o', b', e, hA⟩ | ⟨p', e, hA⟩ | ⟨k', e, h1'⟩
              · injection e with e0; omega
              · injection e with e0; omega
              · injection e with e0; omega
              · injection e with e0; omega
              · injection e with e0 e1 e2 e3 e4 e5 e6
                injection e4 with q0 q1 q2 q3
                injection e3 with r0 r1
                subst e1 e2 e5 e6
                exact ⟨rfl, ⟨q0, q1, q2, q3⟩, rfl, rfl, rfl, ⟨r0, r1⟩, rfl, rfl⟩
          · rw [if_neg h1]
            refine hno false rfl (fun h => ?_)
            rcases h with ⟨s', g', t', e, h1', h2', h3⟩ | ⟨k', s', e, h1', hA⟩ | ⟨s', o', b', e, hA⟩ | ⟨p', e, hA⟩ | ⟨k', e, h1'⟩
            · injection e with e0; omega
            · injection e with e0; omega
            · injection e with e0; omega
            · injection e with e0; omega
            · injection e with e0; omega
def encI (t : S26) : List Int := if t.f0 = [] ∧ t.f1 = [] then [0] else 1 :: encT t.f0 t.f1
def encC (x : S30) : List Int :=
  x.f0 :: ((if 2 ≤ x.f0 ∧ x.f0 ≤ 5 then [x.f1] else []) ++
    (if x.f0 = 2 then pkBytes 2 ((encG x.f2).length : Int) ++ (encG x.f2 ++ encI x.f3)
     else if x.f0 = 3 then x.f4.f0 :: (pkBytes 8 x.f4.f1 ++ (pkBytes 8 x.f4.f2 ++ (pkBytes 8 x.f4.f3 ++ [x.f5])))
     else if x.f0 = 8 then [x.f6] else []))
theorem enc2 (s : Int) (g : List S48) (t : S26) (o : S28) (b p : Int) : encC ⟨2, s, g, t, o, b, p⟩ = 2 :: s :: (pkBytes 2 ((encG g).length : Int) ++ (encG g ++ encI t)) := by simp [encC]
theorem enc3 (s : Int) (g : List S48) (t : S26) (o : S28) (b p : Int) : encC ⟨3, s, g, t, o, b, p⟩ = 3 :: s :: o.f0 :: (pkBytes 8 o.f1 ++ (pkBytes 8 o.f2 ++ (pkBytes 8 o.f3 ++ [b]))) := by simp [encC]
theorem enc8 (s : Int) (g : List S48) (t : S26) (o : S28) (b p : Int) : encC ⟨8, s, g, t, o, b, p⟩ = [8, p] := by simp [encC]
theorem enc45 {k : Int} (h : k = 4 ∨ k = 5) (s : Int) (g : List S48) (t : S26) (o : S28) (b p : Int) : encC ⟨k, s, g, t, o, b, p⟩ = [k, s] := by
  rcases h with rfl | rfl <;> simp [encC]
theorem enc1 {k : Int} (h : k = 1 ∨ k = 6 ∨ k = 7) (s : Int) (g : List S48) (t : S26) (o : S28) (b p : Int) : encC ⟨k, s, g, t, o, b, p⟩ = [k] := by
  rcases h with rfl | rfl | rfl <;> simp [encC]
def encCs (l : List S30) : List Int := l.flatMap encC
theorem put_f (b : List Int) (n size : Int) (h : pkMay n size = true) (hb : b.length + 8 < 140737488355328) : penPut b size [n] = some (b ++ pkBytes size.toNat n) := by
  have : pack_Put.f b n size = some (b ++ pkBytes size.toNat n, 0) := by
    unfold pack_Put.f
    rw [if_pos hb]
    simp [pkPut, h]
  simp [penPut, this]
theorem put1_f (b : List Int) (n : Int) (h : byteOk n = true) (hb : b.length + 8 < 140737488355328) : penPut b 1 [n] = some (b ++ [n]) := by
  rw [put_f b n 1 (may1 (byte_iff.mp h)) hb]
  show some (b ++ pkBytes 1 n) = _
  rw [bytes1 (byte_iff.mp h)]
theorem put3_f (b : List Int) (n m o : Int) (hb : b.length + 30 < 140737488355328) : penPut b 8 [n, m, o] = some (b ++ (pkBytes 8 n ++ (pkBytes 8 m ++ pkBytes 8 o))) := by
  have l8 : ∀ n, (pkBytes 8 n).length = 8 := fun n => pkBytes_length 8 n
  simp only [penPut]
  rw [put8 b n (by omega)]
  simp only [Option.bind_some]
  rw [put8 _ m (by rw [List.length_append, l8]; omega)]
  simp only [Option.bind_some]
  rw [put8 _ o (by rw [List.length_append, List.length_append, l8, l8]; omega)]
  simp [List.append_assoc]
theorem encG_short {g : List S48} (h : gchk g = true) : (encG g).length ≤ 889 := encG_le (gchk_iff.mp h)
theorem may2 {n : Nat} (h : n ≤ 889) : pkMay (n : Int) 2 = true := by simp [pkMay]; omega
theorem encT_not (s d : List Int) (h : s = [] ∧ d = []) : tchk s d = false := by
  obtain ⟨rfl, rfl⟩ := h
  rfl
theorem encI_len {t : S26} (h : (t.f0 = [] ∧ t.f1 = []) ∨ tchk t.f0 t.f1 = true) : (encI t).length ≤ 1001 := by
  unfold encI
  by_cases c : t.f0 = [] ∧ t.f1 = []
  · rw [if_pos c]; simp
  · rw [if_neg c]
    have := encT_le (h.resolve_left c)
    simp; omega
theorem encC_len {x : S30} (h : OKC x) : (encC x).length ≤ 2000 ∧ 1 ≤ (encC x).length := by
  have l2 : ∀ n, (pkBytes 2 n).length = 2 := fun n => pkBytes_length 2 n
  have l8 : ∀ n, (pkBytes 8 n).length = 8 := fun n => pkBytes_length 8 n
  refine ⟨?_, by unfold encC; simp⟩
  rcases h with ⟨s, g, t, rfl, h1, h2, h3⟩ | ⟨k, s, rfl, h1, _⟩ | ⟨s, o, b, rfl, _⟩ | ⟨p, rfl, _⟩ | ⟨k, rfl, h1⟩
  · have h4 := encG_short h2
    have h5 := encI_len h3
    rw [enc2]
    simp only [List.length_cons, List.length_append, l2]
    omega
  · rw [enc45 h1]; simp
  · rw [enc3]
    simp only [List.length_cons, List.length_append, l8, List.length_nil]
    omega
  · rw [enc8]; simp
  · rw [enc1 h1]; simp
theorem okc_byte {x : S30} (h : OKC x) : byteOk x.f0 = true ∧ ((2 ≤ x.f0 ∧ x.f0 ≤ 5) → byteOk x.f1 = true) := by
  rcases h with ⟨s, g, t, rfl, h1, h2, h3⟩ | ⟨k, s, rfl, h1, h2⟩ | ⟨s, o, b, rfl, h1, _⟩ | ⟨p, rfl, _⟩ | ⟨k, rfl, h1⟩
  · exact ⟨rfl, fun _ => h1⟩
  · exact ⟨byte_iff.mpr (by simp only; omega), fun _ => h2⟩
  · exact ⟨rfl, fun _ => h1⟩
  · exact ⟨rfl, fun h => by simp only at h; omega⟩
  · exact ⟨byte_iff.mpr (by simp only; omega), fun _ => rfl⟩
theorem pencmd_f (x : S30) (h : OKC x) (b : List Int) (hb : b.length ≤ 900000000000) (k : Nat) (hk : 100 ≤ k) : penCmd k b x = some (b ++ encC x) := by
  have l2 : ∀ n, (pkBytes 2 n).length = 2 := fun n => pkBytes_length 2 n
  have l8 : ∀ n, (pkBytes 8 n).length = 8 := fun n => pkBytes_length 8 n
  obtain ⟨b0, b1⟩ := okc_byte h
  unfold penCmd
  rw [put1_f b x.f0 b0 (by omega)]
  simp only [Option.bind_some]
  rcases h with ⟨s, g, t, rfl, h1, h2, h3⟩ | ⟨k', s, rfl, h1, h2⟩ | ⟨s, o, u, rfl, h1, h2, h3⟩ | ⟨p, rfl, h1⟩ | ⟨k', rfl, h1⟩
  · have hG := encG_short h2
    have hl3 : t.f0.length ≤ 1000000000 ∧ t.f1.length ≤ 1000000000 := by
      rcases h3 with ⟨e1, e2⟩ | h3
      · rw [e1, e2]; simp
      · have := tchk_len h3; omega
    have hI : (encI t) = if t.f0 = [] ∧ t.f1 = [] then [0] else 1 :: encT t.f0 t.f1 := rfl
    have a1 : (if 2 ≤ (2 : Int) ∧ (2 : Int) ≤ 5 then penPut (b ++ [2]) 1 [s] else some (b ++ [2])) = some (b ++ [2] ++ [s]) := by
      rw [if_pos (by omega), put1_f _ _ h1 (by simp; omega)]
    rw [enc2]
    show (if 2 ≤ (2 : Int) ∧ (2 : Int) ≤ 5 then penPut (b ++ [2]) 1 [s] else some (b ++ [2])).bind _ = _
    rw [a1, Option.bind_some, if_pos rfl]
    show (wire_Write.f k g).bind _ = _
    rw [wwrite_f g k hk, if_pos h2, Option.bind_some]
    show (penPut (b ++ [2] ++ [s]) 2 [((encG g).length : Int)]).bind _ = _
    rw [put_f _ _ 2 (may2 hG) (by simp; omega), Option.bind_some, show (2 : Int).toNat = 2 from rfl]
    show (if (b ++ [2] ++ [s] ++ pkBytes 2 ((encG g).length : Int)).length + (encG g).length ≤ 140737488355328 then _ else _) = _
    rw [if_pos (by simp only [List.length_append, List.length_cons, List.length_nil, l2]; omega)]
    show (script_empty.f t.f0 t.f1).bind _ = _
    rw [empty_f _ _ hl3.1 hl3.2, Option.bind_some]
    by_cases c : t.f0 = [] ∧ t.f1 = []
    · rw [decide_eq_true c, if_pos rfl]
      show penPut (b ++ [2] ++ [s] ++ pkBytes 2 ((encG g).length : Int) ++ encG g) 1 [0] = _
      rw [put1_f _ 0 rfl (by simp only [List.length_append, List.length_cons, List.length_nil, l2]; omega), hI, if_pos c]
      simp [List.append_assoc]
    · rw [decide_eq_false c, if_neg (by decide)]
      show (penPut (b ++ [2] ++ [s] ++ pkBytes 2 ((encG g).length : Int) ++ encG g) 1 [1]).bind _ = _
      rw [put1_f _ 1 rfl (by simp only [List.length_append, List.length_cons, List.length_nil, l2]; omega), Option.bind_some]
      show (image_Put.f k (b ++ [2] ++ [s] ++ pkBytes 2 ((encG g).length : Int) ++ encG g ++ [1]) t.f0 t.f1).map _ = _
      rw [iput_f _ _ _ (by simp only [List.length_append, List.length_cons, List.length_nil, l2]; omega) k hk, iput, if_pos (h3.resolve_left c), hI, if_neg c]
      simp [List.append_assoc]
  · rw [enc45 h1]
    rcases h1 with rfl | rfl
    · show (penPut (b ++ [4]) 1 [s]).bind _ = _
      rw [put1_f _ _ h2 (by simp; omega)]
      simp
    · show (penPut (b ++ [5]) 1 [s]).bind _ = _
      rw [put1_f _ _ h2 (by simp; omega)]
      simp
  · rw [enc3]
    show (penPut (b ++ [3]) 1 [s]).bind _ = _
    rw [put1_f _ _ h1 (by simp; omega), Option.bind_some]
    show (penPut (b ++ [3] ++ [s]) 1 [o.f0]).bind _ = _
    rw [put1_f _ _ h2 (by simp; omega), Option.bind_some]
    show (penPut (b ++ [3] ++ [s] ++ [o.f0]) 8 [o.f1, o.f2, o.f3]).bind _ = _
    rw [put3_f _ _ _ _ (by simp; omega), Option.bind_some]
    show penPut (b ++ [3] ++ [s] ++ [o.f0] ++ (pkBytes 8 o.f1 ++ (pkBytes 8 o.f2 ++ pkBytes 8 o.f3))) 1 [u] = _
    rw [put1_f _ _ h3 (by simp only [List.length_append, List.length_cons, List.length_nil, l8]; omega)]
    simp [List.append_assoc]
  · rw [enc8]
    show penPut (b ++ [8]) 1 [p] = _
    rw [put1_f _ _ h1 (by simp; omega)]
    simp
  · rw [enc1 h1]
    rcases h1 with rfl | rfl | rfl <;> rfl
theorem penall_f (k : Nat) (hk : 100 ≤ k) : ∀ (l : List S30) (b : List Int), (∀ x ∈ l, OKC x) → b.length + 2000 * l.length ≤ 900000000000 → penAll k b l = some (b ++ encCs l) := by
  intro l
  induction l with
  | nil => intro b _ _; simp [penAll, encCs]
  | cons x r ih =>
    intro b h hb
    have hx := encC_len (h x List.mem_cons_self)
    simp only [List.length_cons] at hb
    rw [penAll, pencmd_f x (h x List.mem_cons_self) b (by omega) k hk, Option.bind_some, ih _ (fun y hy => h y (List.mem_cons_of_mem _ hy)) (by rw [List.length_append]; omega)]
    simp [encCs, List.append_assoc]
theorem anybad_f (k : Nat) (hk : 5 ≤ k) : ∀ (l : List S30), (∀ x ∈ l, smallC x) → ∃ q, anyBad k l = some q ∧ (q = false ↔ ∀ x ∈ l, OKC x) := by
  intro l
  induction l with
  | nil => exact fun _ => ⟨false, rfl, ⟨fun _ x hx => (by cases hx), fun _ => rfl⟩⟩
  | cons x r ih =>
    intro h
    obtain ⟨q, hq, hqi⟩ := ih (fun y hy => h y (List.mem_cons_of_mem _ hy))
    obtain ⟨b, hb, hbi⟩ := chk_ex x (h x List.mem_cons_self) k hk
    refine ⟨!b || q, by rw [anyBad, hb, Option.bind_some, hq]; rfl, ?_⟩
    rw [Bool.or_eq_false_iff, Bool.not_eq_false']
    exact ⟨fun ⟨h1, h2⟩ y hy => by
      rcases List.mem_cons.mp hy with rfl | hy
      · exact hbi.mp h1
      · exact hqi.mp h2 y hy, fun hall => ⟨hbi.mpr (hall x List.mem_cons_self), hqi.mpr (fun y hy => hall y (List.mem_cons_of_mem _ hy))⟩⟩
theorem write_f (l : List S30) (hs : ∀ x ∈ l, smallC x) (hl : l.length ≤ 1000000) (k : Nat) (hk : 100 ≤ k) :
    (script_Write.f k l = some (encCs l, 0) ∧ ∀ x ∈ l, OKC x) ∨ (script_Write.f k l = some ([], 230) ∧ ¬ ∀ x ∈ l, OKC x) := by
  obtain ⟨q, hq, hqi⟩ := anybad_f k (by omega) l hs
  unfold script_Write.f
  rw [hq]
  cases q with
  | false =>
    have h := hqi.mp rfl
    refine .inl ⟨?_, h⟩
    rw [Option.bind_some, if_neg (by decide), penall_f k hk l [] h (by simp; omega)]
    simp
  | true => exact .inr ⟨rfl, fun h => by have := hqi.mpr h; cases this⟩
end Go.Proofs.Ytjcgadfmhfhbgaa.Plain
