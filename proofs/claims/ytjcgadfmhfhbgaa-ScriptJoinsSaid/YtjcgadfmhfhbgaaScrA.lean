/- Commands as bytes, in plain words: which have some, what they are written as, what bytes are read as; no conditions. -/
import Derived.Test.YtjcgadfmhfhbgaaWireA
import Derived.Test.YtjcgadfmhfhbgaaAx4
import Derived.Test.YtjcgadfmhfhbgaaAx7
import Derived.Test.YtjcgadfmhfhbgaaAx10
namespace Go.Proofs.Ytjcgadfmhfhbgaa.Plain
open Go.RowKit Go.Proofs.Ytjcgadfmhfhbgaa.A Go.Proofs.YtjcgadfmhfhbgaaW.PrintWords Go.Proofs.YtjcgadfmhfhbgaaW.PrintLast Go.Proofs.YtjcgadfmhfhbgaaW.PrintMore
set_option linter.unusedVariables false
set_option linter.unusedSimpArgs false
def inI (n : Int) : Prop := -9223372036854775808 ≤ n ∧ n ≤ 9223372036854775807
theorem byte_iff {n : Int} : byteOk n = true ↔ 0 ≤ n ∧ n ≤ 255 := by simp [byteOk]
def OKC (x : S30) : Prop :=
  (∃ s g t, x = ⟨2, s, g, t, ⟨0, 0, 0, 0⟩, 0, 0⟩ ∧ byteOk s = true ∧ gchk g = true ∧ ((t.f0 = [] ∧ t.f1 = []) ∨ tchk t.f0 t.f1 = true)) ∨
  (∃ k s, x = ⟨k, s, [], ⟨[], []⟩, ⟨0, 0, 0, 0⟩, 0, 0⟩ ∧ (k = 4 ∨ k = 5) ∧ byteOk s = true) ∨
  (∃ s o b, x = ⟨3, s, [], ⟨[], []⟩, o, b, 0⟩ ∧ byteOk s = true ∧ byteOk o.f0 = true ∧ byteOk b = true) ∨
  (∃ p, x = ⟨8, 0, [], ⟨[], []⟩, ⟨0, 0, 0, 0⟩, 0, p⟩ ∧ byteOk p = true) ∨
  (∃ k, x = ⟨k, 0, [], ⟨[], []⟩, ⟨0, 0, 0, 0⟩, 0, 0⟩ ∧ (k = 1 ∨ k = 6 ∨ k = 7))
def smallC (x : S30) : Prop := x.f2.length ≤ 1000000000 ∧ x.f3.f0.length ≤ 1000000000 ∧ x.f3.f1.length ≤ 1000000000
theorem empty_f (s d : List Int) (hs : s.length ≤ 1000000000) (hd : d.length ≤ 1000000000) : script_empty.f s d = some (decide (s = [] ∧ d = [])) := by
  unfold script_empty.f
  rw [w64 (by omega) (by omega)]
  congr 1
  cases s with
  | cons a s => simp; omega
  | nil => cases d with
    | cons a d => simp; omega
    | nil => rfl
theorem fits2 (s p : Int) : script_fits.f [s, p] = some (byteOk s && byteOk p) := by simp [script_fits.f]
theorem end_f (rs o0 o1 o2 o3 rb rp : Int) (rg : List S48) (r3 r4 : List Int) (s p : Int) (h3 : r3.length ≤ 1000000000) (h4 : r4.length ≤ 1000000000) :
    ∃ b, chkEnd rs o0 o1 o2 o3 rb rp rg r3 r4 s p = some b ∧ (b = true ↔ rs = 0 ∧ (o0 = 0 ∧ o1 = 0 ∧ o2 = 0 ∧ o3 = 0) ∧ rb = 0 ∧ rp = 0 ∧ rg = [] ∧ (r3 = [] ∧ r4 = []) ∧ byteOk s = true ∧ byteOk p = true) := by
  unfold chkEnd
  rw [empty_f r3 r4 h3 h4, fits2]
  by_cases c1 : rs = 0
  · rw [if_pos c1]
    by_cases c2 : o0 = 0 ∧ o1 = 0 ∧ o2 = 0 ∧ o3 = 0
    · rw [if_pos c2]
      by_cases c3 : rb = 0
      · rw [if_pos c3]
        by_cases c4 : rp = 0
        · rw [if_pos c4]
          by_cases c5 : rg = []
          · rw [if_pos c5]
            simp only [Option.bind_some, decide_eq_true_eq]
            by_cases c6 : r3 = [] ∧ r4 = []
            · rw [if_pos c6]
              exact ⟨_, rfl, by rw [Bool.and_eq_true]; exact ⟨fun h => ⟨c1, c2, c3, c4, c5, c6, h⟩, fun h => h.2.2.2.2.2.2⟩⟩
            · rw [if_neg c6]
              exact ⟨_, rfl, ⟨fun h => (by cases h), fun h => absurd h.2.2.2.2.2.1 c6⟩⟩
          · rw [if_neg c5]
            exact ⟨_, rfl, ⟨fun h => (by cases h), fun h => absurd h.2.2.2.2.1 c5⟩⟩
        · rw [if_neg c4]
          exact ⟨_, rfl, ⟨fun h => (by cases h), fun h => absurd h.2.2.2.1 c4⟩⟩
      · rw [if_neg c3]
        exact ⟨_, rfl, ⟨fun h => (by cases h), fun h => absurd h.2.2.1 c3⟩⟩
    · rw [if_neg c2]
      exact ⟨_, rfl, ⟨fun h => (by cases h), fun h => absurd h.2.1 c2⟩⟩
  · rw [if_neg c1]
    exact ⟨_, rfl, ⟨fun h => (by cases h), fun h => absurd h.1 c1⟩⟩
theorem gcheck_f (l : List S48) : graph_Check.f l = some (gchk l) := rfl
theorem chk_ex (x : S30) (hx : smallC x) (k : Nat) (hk : 5 ≤ k) : ∃ b, chkS k x = some b ∧ (b = true ↔ OKC x) := by
  obtain ⟨a0, a1, g, ⟨s, d⟩, ⟨o0, o1, o2, o3⟩, bu, pa⟩ := x
  obtain ⟨_, hs, hd⟩ := hx
  simp only at hs hd
  have he := end_f
  unfold chkS script_Check.f
  simp only
  by_cases h2 : a0 = 2
  · subst h2
    rw [if_pos rfl, gcheck_f]
    simp only [Option.bind_some]
    cases hg : gchk g with
    | false =>
      refine ⟨false, rfl, ⟨fun h => (by cases h), fun h => ?_⟩⟩
      rcases h with ⟨s', g', t', e, h1, h2, h3⟩ | ⟨k', s', e, h1, _⟩ | ⟨s', o', b', e, _⟩ | ⟨p', e, _⟩ | ⟨k', e, h1⟩
      · injection e with e0 e1 e2
        subst e2
        rw [hg] at h2; cases h2
      · injection e with e0; omega
      · injection e with e0; omega
      · injection e with e0; omega
      · injection e with e0; omega
    | true =>
      rw [if_pos rfl, empty_f s d hs hd, tcheck_f s d k hk]
      simp only [Option.bind_some, decide_eq_true_eq]
      obtain ⟨b, hb, hbi⟩ := he 0 o0 o1 o2 o3 bu pa [] [] [] a1 pa (by simp) (by simp)
      have hmain : ∀ t : Bool, (t = true ↔ ((s = [] ∧ d = []) ∨ tchk s d = true)) → ∃ q, (if t = true then chkEnd 0 o0 o1 o2 o3 bu pa [] [] [] a1 pa else some false) = some q ∧ (q = true ↔ OKC ⟨2, a1, g, ⟨s, d⟩, ⟨o0, o1, o2, o3⟩, bu, pa⟩) := by
        intro t ht
        cases t with
        | false =>
          refine ⟨false, rfl, ⟨fun h => (by cases h), fun h => ?_⟩⟩
          rcases h with ⟨s', g', t', e, h1, h2, h3⟩ | ⟨k', s', e, h1, _⟩ | ⟨s', o', b', e, _⟩ | ⟨p', e, _⟩ | ⟨k', e, h1⟩
          · injection e with e0 e1 e2 e3
            subst e3
            exact absurd (ht.mpr h3) (by decide)
          · injection e with e0; omega
          · injection e with e0; omega
          · injection e with e0; omega
          · injection e with e0; omega
        | true =>
          rw [if_pos rfl, hb]
          refine ⟨b, rfl, hbi.trans ⟨fun h => ?_, fun h => ?_⟩⟩
          · obtain ⟨_, ⟨rfl, rfl, rfl, rfl⟩, rfl, rfl, _, _, hA, _⟩ := h
            exact .inl ⟨a1, g, ⟨s, d⟩, rfl, hA, hg, ht.mp rfl⟩
          · rcases h with ⟨s', g', t', e, h1, h2, h3⟩ | ⟨k', s', e, h1, _⟩ | ⟨s', o', b', e, _⟩ | ⟨p', e, _⟩ | ⟨k', e, h1⟩
            · injection e with e0 e1 e2 e3 e4 e5 e6
              injection e4 with q0 q1 q2 q3
              subst e1 e5 e6
              exact ⟨rfl, ⟨q0, q1, q2, q3⟩, rfl, rfl, rfl, ⟨rfl, rfl⟩, h1, rfl⟩
            · injection e with e0; omega
            · injection e with e0; omega
            · injection e with e0; omega
            · injection e with e0; omega
      by_cases hE : s = [] ∧ d = []
      · rw [if_pos hE, Option.bind_some]
        exact hmain true ⟨fun _ => .inl hE, fun _ => rfl⟩
      · rw [if_neg hE, Option.bind_some]
        exact hmain (tchk s d) ⟨fun h => .inr h, fun h => h.elim (fun h => absurd h hE) id⟩
  · rw [if_neg h2]
    have hno : ∀ q : Bool, q = false → (¬ OKC ⟨a0, a1, g, ⟨s, d⟩, ⟨o0, o1, o2, o3⟩, bu, pa⟩) → ∃ b, some q = some b ∧ (b = true ↔ OKC ⟨a0, a1, g, ⟨s, d⟩, ⟨o0, o1, o2, o3⟩, bu, pa⟩) := fun q hq hn => ⟨q, rfl, by subst hq; exact ⟨fun h => (by cases h), fun h => absurd h hn⟩⟩
    by_cases h4 : a0 = 4 ∨ a0 = 5
    · rw [if_pos h4]
      obtain ⟨b, hb, hbi⟩ := he 0 o0 o1 o2 o3 bu pa g s d a1 pa hs hd
      refine ⟨b, hb, hbi.trans ⟨fun h => ?_, fun h => ?_⟩⟩
      · obtain ⟨_, ⟨rfl, rfl, rfl, rfl⟩, rfl, rfl, rfl, ⟨rfl, rfl⟩, hA, _⟩ := h
        exact .inr (.inl ⟨a0, a1, rfl, h4, hA⟩)
      · rcases h with ⟨s', g', t', e, h1, h2', h3⟩ | ⟨k', s', e, h1, hA⟩ | ⟨s', o', b', e, _⟩ | ⟨p', e, _⟩ | ⟨k', e, h1⟩
        · injection e with e0; omega
        · injection e with e0 e1 e2 e3 e4 e5 e6
          injection e4 with q0 q1 q2 q3
          injection e3 with r0 r1
          subst e1 e2 e5 e6
          exact ⟨rfl, ⟨q0, q1, q2, q3⟩, rfl, rfl, rfl, ⟨r0, r1⟩, hA, rfl⟩
        · injection e with e0; omega
        · injection e with e0; omega
        · injection e with e0; omega
    · rw [if_neg h4]
      by_cases h3 : a0 = 3
      · subst h3
        rw [if_pos rfl, fits2, Option.bind_some]
        have hc : ∀ h : OKC ⟨3, a1, g, ⟨s, d⟩, ⟨o0, o1, o2, o3⟩, bu, pa⟩, (g = [] ∧ (s = [] ∧ d = []) ∧ pa = 0) ∧ byteOk a1 = true ∧ byteOk o0 = true ∧ byteOk bu = true := by
          intro h
          rcases h with ⟨s', g', t', e, h1, h2', h3⟩ | ⟨k', s', e, h1, hA⟩ | ⟨s', o', b', e, hA⟩ | ⟨p', e, _⟩ | ⟨k', e, h1⟩
          · injection e with e0; omega
          · injection e with e0; omega
          · injection e with e0 e1 e2 e3 e4 e5 e6
            injection e3 with r0 r1
            subst e1 e2 e4 e5 e6
            exact ⟨⟨rfl, ⟨r0, r1⟩, rfl⟩, hA⟩
          · injection e with e0; omega
          · injection e with e0; omega
        cases hq : byteOk o0 && byteOk bu with
        | false =>
          rw [if_neg (by decide)]
          refine ⟨false, rfl, ⟨fun h => (by cases h), fun h => ?_⟩⟩
          obtain ⟨_, _, q1, q2⟩ := hc h
          rw [q1, q2] at hq; cases hq
        | true =>
          rw [if_pos rfl]
          rw [Bool.and_eq_true] at hq
          obtain ⟨b, hb, hbi⟩ := he 0 0 0 0 0 0 pa g s d a1 pa hs hd
          refine ⟨b, hb, hbi.trans ⟨fun h => ?_, fun h => ?_⟩⟩
          · obtain ⟨_, _, _, rfl, rfl, ⟨rfl, rfl⟩, hA, _⟩ := h
            exact .inr (.inr (.inl ⟨a1, ⟨o0, o1, o2, o3⟩, bu, rfl, hA, hq.1, hq.2⟩))
          · obtain ⟨⟨q0, q1, q2⟩, q3, _⟩ := hc h
            exact ⟨rfl, ⟨rfl, rfl, rfl, rfl⟩, rfl, q2, q0, q1, q3, by rw [q2]; rfl⟩
      · rw [if_neg h3]
        by_cases h8 : a0 = 8
        · subst h8
          rw [if_pos rfl]
          obtain ⟨b, hb, hbi⟩ := he a1 o0 o1 o2 o3 bu 0 g s d a1 pa hs hd
          refine ⟨b, hb, hbi.trans ⟨fun h => ?_, fun h => ?_⟩⟩
          · obtain ⟨rfl, ⟨rfl, rfl, rfl, rfl⟩, rfl, _, rfl, ⟨rfl, rfl⟩, _, hA⟩ := h
            exact .inr (.inr (.inr (.inl ⟨pa, rfl, hA⟩)))
          · rcases h with ⟨s', g', t', e, h1, h2', h3⟩ | ⟨k', s', e, h1, hA⟩ | ⟨s', o', b', e, hA⟩ | ⟨p', e, hA⟩ | ⟨k', e, h1⟩
            · injection e with e0; omega
            · injection e with e0; omega
            · injection e with e0; omega
            · injection e with e0 e1 e2 e3 e4 e5 e6
              injection e4 with q0 q1 q2 q3
              injection e3 with r0 r1
              subst e1 e2 e5 e6
              exact ⟨rfl, ⟨q0, q1, q2, q3⟩, rfl, rfl, rfl, ⟨r0, r1⟩, rfl, hA⟩
            · injection e with e0; omega
        · rw [if_neg h8]
          by_cases h1 : a0 = 1 ∨ a0 = 6 ∨ a0 = 7
          · rw [if_pos h1]
            obtain ⟨b, hb, hbi⟩ := he a1 o0 o1 o2 o3 bu pa g s d a1 pa hs hd
            refine ⟨b, hb, hbi.trans ⟨fun h => ?_, fun h => ?_⟩⟩
            · obtain ⟨rfl, ⟨rfl, rfl, rfl, rfl⟩, rfl, rfl, rfl, ⟨rfl, rfl⟩, _, _⟩ := h
              exact .inr (.inr (.inr (.inr ⟨a0, rfl, h1⟩)))
            · rcases h with ⟨s', g', t', e, h1', h2', h3⟩ | ⟨k', s', e, h1', hA⟩ | ⟨s', o', b', e, hA⟩ | ⟨p', e, hA⟩ | ⟨k', e, h1'⟩
              · injection e with e0; omega
              · injection e with e0; omega
              · injection e with e0; omega
              · injection e with e0; omega
              · injection e with e0 e1 e2 e3 e4 e5 e6
                injection e4 with q0 q1 q2 q3
                injection e3 with r0 r1
                subst e1 e2 e5 e6
                exact ⟨rfl, ⟨q0, q1, q2, q3⟩, rfl, rfl, rfl, ⟨r0, r1⟩, rfl, rfl⟩
          · rw [if_neg h1]
            refine hno false rfl (fun h => ?_)
            rcases h with ⟨s', g', t', e, h1', h2', h3⟩ | ⟨k', s', e, h1', hA⟩ | ⟨s', o', b', e, hA⟩ | ⟨p', e, hA⟩ | ⟨k', e, h1'⟩
            · injection e with e0; omega
            · injection e with e0; omega
            · injection e with e0; omega
            · injection e with e0; omega
            · injection e with e0; omega
def encI (t : S26) : List Int := if t.f0 = [] ∧ t.f1 = [] then [0] else 1 :: encT t.f0 t.f1
def encC (x : S30) : List Int :=
  x.f0 :: ((if 2 ≤ x.f0 ∧ x.f0 ≤ 5 then [x.f1] else []) ++
    (if x.f0 = 2 then pkBytes 2 ((encG x.f2).length : Int) ++ (encG x.f2 ++ encI x.f3)
     else if x.f0 = 3 then x.f4.f0 :: (pkBytes 8 x.f4.f1 ++ (pkBytes 8 x.f4.f2 ++ (pkBytes 8 x.f4.f3 ++ [x.f5])))
     else if x.f0 = 8 then [x.f6] else []))
theorem enc2 (s : Int) (g : List S48) (t : S26) (o : S28) (b p : Int) : encC ⟨2, s, g, t, o, b, p⟩ = 2 :: s :: (pkBytes 2 ((encG g).length : Int) ++ (encG g ++ encI t)) := by simp [encC]
theorem enc3 (s : Int) (g : List S48) (t : S26) (o : S28) (b p : Int) : encC ⟨3, s, g, t, o, b, p⟩ = 3 :: s :: o.f0 :: (pkBytes 8 o.f1 ++ (pkBytes 8 o.f2 ++ (pkBytes 8 o.f3 ++ [b]))) := by simp [encC]
theorem enc8 (s : Int) (g : List S48) (t : S26) (o : S28) (b p : Int) : encC ⟨8, s, g, t, o, b, p⟩ = [8, p] := by simp [encC]
theorem enc45 {k : Int} (h : k = 4 ∨ k = 5) (s : Int) (g : List S48) (t : S26) (o : S28) (b p : Int) : encC ⟨k, s, g, t, o, b, p⟩ = [k, s] := by
  rcases h with rfl | rfl <;> simp [encC]
theorem enc1 {k : Int} (h : k = 1 ∨ k = 6 ∨ k = 7) (s : Int) (g : List S48) (t : S26) (o : S28) (b p : Int) : encC ⟨k, s, g, t, o, b, p⟩ = [k] := by
  rcases h with rfl | rfl | rfl <;> simp [encC]
def encCs (l : List S30) : List Int := l.flatMap encC
def wideC (x : S30) : Prop := wideG x.f2 ∧ (∀ n ∈ x.f3.f1, inI n) ∧ inI x.f4.f1 ∧ inI x.f4.f2 ∧ inI x.f4.f3
theorem put_f (b : List Int) (n size : Int) (h : pkMay n size = true) (hb : b.length + 8 < 140737488355328) : penPut b size [n] = some (b ++ pkBytes size.toNat n) := by
  have : pack_Put.f b n size = some (b ++ pkBytes size.toNat n, 0) := by
    unfold pack_Put.f
    rw [if_pos hb]
    simp [pkPut, h]
  simp [penPut, this]
theorem put1_f (b : List Int) (n : Int) (h : byteOk n = true) (hb : b.length + 8 < 140737488355328) : penPut b 1 [n] = some (b ++ [n]) := by
  rw [put_f b n 1 (may1 (byte_iff.mp h)) hb]
  show some (b ++ pkBytes 1 n) = _
  rw [bytes1 (byte_iff.mp h)]
theorem put3_f (b : List Int) (n m o : Int) (hb : b.length + 30 < 140737488355328) : penPut b 8 [n, m, o] = some (b ++ (pkBytes 8 n ++ (pkBytes 8 m ++ pkBytes 8 o))) := by
  have l8 : ∀ n, (pkBytes 8 n).length = 8 := fun n => pkBytes_length 8 n
  simp only [penPut]
  rw [put8 b n (by omega)]
  simp only [Option.bind_some]
  rw [put8 _ m (by rw [List.length_append, l8]; omega)]
  simp only [Option.bind_some]
  rw [put8 _ o (by rw [List.length_append, List.length_append, l8, l8]; omega)]
  simp [List.append_assoc]
theorem encG_short {g : List S48} (h : gchk g = true) : (encG g).length ≤ 889 := encG_le (gchk_iff.mp h)
theorem may2 {n : Nat} (h : n ≤ 889) : pkMay (n : Int) 2 = true := by simp [pkMay]; omega
theorem encT_not (s d : List Int) (h : s = [] ∧ d = []) : tchk s d = false := by
  obtain ⟨rfl, rfl⟩ := h
  rfl
theorem encI_len {t : S26} (h : (t.f0 = [] ∧ t.f1 = []) ∨ tchk t.f0 t.f1 = true) : (encI t).length ≤ 1001 := by
  unfold encI
  by_cases c : t.f0 = [] ∧ t.f1 = []
  · rw [if_pos c]; simp
  · rw [if_neg c]
    have := encT_le (h.resolve_left c)
    simp; omega
theorem encC_len {x : S30} (h : OKC x) : (encC x).length ≤ 2000 ∧ 1 ≤ (encC x).length := by
  have l2 : ∀ n, (pkBytes 2 n).length = 2 := fun n => pkBytes_length 2 n
  have l8 : ∀ n, (pkBytes 8 n).length = 8 := fun n => pkBytes_length 8 n
  refine ⟨?_, by unfold encC; simp⟩
  rcases h with ⟨s, g, t, rfl, h1, h2, h3⟩ | ⟨k, s, rfl, h1, _⟩ | ⟨s, o, b, rfl, _⟩ | ⟨p, rfl, _⟩ | ⟨k, rfl, h1⟩
  · have h4 := encG_short h2
    have h5 := encI_len h3
    rw [enc2]
    simp only [List.length_cons, List.length_append, l2]
    omega
  · rw [enc45 h1]; simp
  · rw [enc3]
    simp only [List.length_cons, List.length_append, l8, List.length_nil]
    omega
  · rw [enc8]; simp
  · rw [enc1 h1]; simp
theorem okc_byte {x : S30} (h : OKC x) : byteOk x.f0 = true ∧ ((2 ≤ x.f0 ∧ x.f0 ≤ 5) → byteOk x.f1 = true) := by
  rcases h with ⟨s, g, t, rfl, h1, h2, h3⟩ | ⟨k, s, rfl, h1, h2⟩ | ⟨s, o, b, rfl, h1, _⟩ | ⟨p, rfl, _⟩ | ⟨k, rfl, h1⟩
  · exact ⟨rfl, fun _ => h1⟩
  · exact ⟨byte_iff.mpr (by simp only; omega), fun _ => h2⟩
  · exact ⟨rfl, fun _ => h1⟩
  · exact ⟨rfl, fun h => by simp only at h; omega⟩
  · exact ⟨byte_iff.mpr (by simp only; omega), fun _ => rfl⟩
theorem pencmd_f (x : S30) (h : OKC x) (b : List Int) (hb : b.length ≤ 900000000000) (k : Nat) (hk : 100 ≤ k) : penCmd k b x = some (b ++ encC x) := by
  have l2 : ∀ n, (pkBytes 2 n).length = 2 := fun n => pkBytes_length 2 n
  have l8 : ∀ n, (pkBytes 8 n).length = 8 := fun n => pkBytes_length 8 n
  obtain ⟨b0, b1⟩ := okc_byte h
  unfold penCmd
  rw [put1_f b x.f0 b0 (by omega)]
  simp only [Option.bind_some]
  rcases h with ⟨s, g, t, rfl, h1, h2, h3⟩ | ⟨k', s, rfl, h1, h2⟩ | ⟨s, o, u, rfl, h1, h2, h3⟩ | ⟨p, rfl, h1⟩ | ⟨k', rfl, h1⟩
  · have hG := encG_short h2
    have hl3 : t.f0.length ≤ 1000000000 ∧ t.f1.length ≤ 1000000000 := by
      rcases h3 with ⟨e1, e2⟩ | h3
      · rw [e1, e2]; simp
      · have := tchk_len h3; omega
    have hI : (encI t) = if t.f0 = [] ∧ t.f1 = [] then [0] else 1 :: encT t.f0 t.f1 := rfl
    have a1 : (if 2 ≤ (2 : Int) ∧ (2 : Int) ≤ 5 then penPut (b ++ [2]) 1 [s] else some (b ++ [2])) = some (b ++ [2] ++ [s]) := by
      rw [if_pos (by omega), put1_f _ _ h1 (by simp; omega)]
    rw [enc2]
    show (if 2 ≤ (2 : Int) ∧ (2 : Int) ≤ 5 then penPut (b ++ [2]) 1 [s] else some (b ++ [2])).bind _ = _
    rw [a1, Option.bind_some, if_pos rfl]
    show (wire_Write.f k g).bind _ = _
    rw [wwrite_f g k hk, if_pos h2, Option.bind_some]
    show (penPut (b ++ [2] ++ [s]) 2 [((encG g).length : Int)]).bind _ = _
    rw [put_f _ _ 2 (may2 hG) (by simp; omega), Option.bind_some, show (2 : Int).toNat = 2 from rfl]
    show (if (b ++ [2] ++ [s] ++ pkBytes 2 ((encG g).length : Int)).length + (encG g).length ≤ 140737488355328 then _ else _) = _
    rw [if_pos (by simp only [List.length_append, List.length_cons, List.length_nil, l2]; omega)]
    show (script_empty.f t.f0 t.f1).bind _ = _
    rw [empty_f _ _ hl3.1 hl3.2, Option.bind_some]
    by_cases c : t.f0 = [] ∧ t.f1 = []
    · rw [decide_eq_true c, if_pos rfl]
      show penPut (b ++ [2] ++ [s] ++ pkBytes 2 ((encG g).length : Int) ++ encG g) 1 [0] = _
      rw [put1_f _ 0 rfl (by simp only [List.length_append, List.length_cons, List.length_nil, l2]; omega), hI, if_pos c]
      simp [List.append_assoc]
    · rw [decide_eq_false c, if_neg (by decide)]
      show (penPut (b ++ [2] ++ [s] ++ pkBytes 2 ((encG g).length : Int) ++ encG g) 1 [1]).bind _ = _
      rw [put1_f _ 1 rfl (by simp only [List.length_append, List.length_cons, List.length_nil, l2]; omega), Option.bind_some]
      show (image_Put.f k (b ++ [2] ++ [s] ++ pkBytes 2 ((encG g).length : Int) ++ encG g ++ [1]) t.f0 t.f1).map _ = _
      rw [iput_f _ _ _ (by simp only [List.length_append, List.length_cons, List.length_nil, l2]; omega) k hk, iput, if_pos (h3.resolve_left c), hI, if_neg c]
      simp [List.append_assoc]
  · rw [enc45 h1]
    rcases h1 with rfl | rfl
    · show (penPut (b ++ [4]) 1 [s]).bind _ = _
      rw [put1_f _ _ h2 (by simp; omega)]
      simp
    · show (penPut (b ++ [5]) 1 [s]).bind _ = _
      rw [put1_f _ _ h2 (by simp; omega)]
      simp
  · rw [enc3]
    show (penPut (b ++ [3]) 1 [s]).bind _ = _
    rw [put1_f _ _ h1 (by simp; omega), Option.bind_some]
    show (penPut (b ++ [3] ++ [s]) 1 [o.f0]).bind _ = _
    rw [put1_f _ _ h2 (by simp; omega), Option.bind_some]
    show (penPut (b ++ [3] ++ [s] ++ [o.f0]) 8 [o.f1, o.f2, o.f3]).bind _ = _
    rw [put3_f _ _ _ _ (by simp; omega), Option.bind_some]
    show penPut (b ++ [3] ++ [s] ++ [o.f0] ++ (pkBytes 8 o.f1 ++ (pkBytes 8 o.f2 ++ pkBytes 8 o.f3))) 1 [u] = _
    rw [put1_f _ _ h3 (by simp only [List.length_append, List.length_cons, List.length_nil, l8]; omega)]
    simp [List.append_assoc]
  · rw [enc8]
    show penPut (b ++ [8]) 1 [p] = _
    rw [put1_f _ _ h1 (by simp; omega)]
    simp
  · rw [enc1 h1]
    rcases h1 with rfl | rfl | rfl <;> rfl
theorem penall_f (k : Nat) (hk : 100 ≤ k) : ∀ (l : List S30) (b : List Int), (∀ x ∈ l, OKC x) → b.length + 2000 * l.length ≤ 900000000000 → penAll k b l = some (b ++ encCs l) := by
  intro l
  induction l with
  | nil => intro b _ _; simp [penAll, encCs]
  | cons x r ih =>
    intro b h hb
    have hx := encC_len (h x List.mem_cons_self)
    simp only [List.length_cons] at hb
    rw [penAll, pencmd_f x (h x List.mem_cons_self) b (by omega) k hk, Option.bind_some, ih _ (fun y hy => h y (List.mem_cons_of_mem _ hy)) (by rw [List.length_append]; omega)]
    simp [encCs, List.append_assoc]
theorem encs_len : ∀ (l : List S30), (∀ x ∈ l, OKC x) → (encCs l).length ≤ 2000 * l.length := by
  intro l
  induction l with
  | nil => intro _; simp [encCs]
  | cons x r ih =>
    intro h
    have h1 := encC_len (h x List.mem_cons_self)
    have h2 := ih (fun y hy => h y (List.mem_cons_of_mem _ hy))
    have e : encCs (x :: r) = encC x ++ encCs r := rfl
    rw [e, List.length_append, List.length_cons]
    omega
theorem anybad_f (k : Nat) (hk : 5 ≤ k) : ∀ (l : List S30), (∀ x ∈ l, smallC x) → ∃ q, anyBad k l = some q ∧ (q = false ↔ ∀ x ∈ l, OKC x) := by
  intro l
  induction l with
  | nil => exact fun _ => ⟨false, rfl, ⟨fun _ x hx => (by cases hx), fun _ => rfl⟩⟩
  | cons x r ih =>
    intro h
    obtain ⟨q, hq, hqi⟩ := ih (fun y hy => h y (List.mem_cons_of_mem _ hy))
    obtain ⟨b, hb, hbi⟩ := chk_ex x (h x List.mem_cons_self) k hk
    refine ⟨!b || q, by rw [anyBad, hb, Option.bind_some, hq]; rfl, ?_⟩
    rw [Bool.or_eq_false_iff, Bool.not_eq_false']
    exact ⟨fun ⟨h1, h2⟩ y hy => by
      rcases List.mem_cons.mp hy with rfl | hy
      · exact hbi.mp h1
      · exact hqi.mp h2 y hy, fun hall => ⟨hbi.mpr (hall x List.mem_cons_self), hqi.mpr (fun y hy => hall y (List.mem_cons_of_mem _ hy))⟩⟩
theorem write_f (l : List S30) (hs : ∀ x ∈ l, smallC x) (hl : l.length ≤ 1000000) (k : Nat) (hk : 100 ≤ k) :
    (script_Write.f k l = some (encCs l, 0) ∧ ∀ x ∈ l, OKC x) ∨ (script_Write.f k l = some ([], 230) ∧ ¬ ∀ x ∈ l, OKC x) := by
  obtain ⟨q, hq, hqi⟩ := anybad_f k (by omega) l hs
  unfold script_Write.f
  rw [hq]
  cases q with
  | false =>
    have h := hqi.mp rfl
    refine .inl ⟨?_, h⟩
    rw [Option.bind_some, if_neg (by decide), penall_f k hk l [] h (by simp; omega)]
    simp
  | true => exact .inr ⟨rfl, fun h => by have := hqi.mpr h; cases this⟩
theorem pk2 (c d : Int) (hc : 0 ≤ c ∧ c < 256) (hd : 0 ≤ d ∧ d < 256) : tkl 0 [c, d] = c * 256 + d ∧ pkBytes 2 (c * 256 + d) = [c, d] := by
  have ho : octs [c, d] := fun x hx => by
    rcases List.mem_cons.1 hx with rfl | hx
    · exact hc
    · obtain rfl := List.mem_singleton.1 hx
      exact hd
  refine ⟨?_, ?_⟩
  · rw [tkl_zero _ ho]
    simp only [evb]
    rw [w64 (by omega) (by omega)]
    omega
  · simp only [pkBytes, Nat.mul_zero, Nat.mul_one]
    rw [show (2 : Int) ^ 8 = 256 from rfl, show (2 : Int) ^ 0 = 1 from rfl, Int.ediv_one]
    rw [show (c * 256 + d) / 256 % 256 = c by omega, show (c * 256 + d) % 256 = d by omega]
theorem take2 {b : List Int} (ho : octs b) : ((pkTake b 2).2.2 = 0 ∧ b = pkBytes 2 (pkTake b 2).1 ++ (pkTake b 2).2.1 ∧ 0 ≤ (pkTake b 2).1 ∧ (pkTake b 2).1 ≤ 65535) ∨ pkTake b 2 = (0, [], 40) := by
  match b, ho with
  | [], _ => exact .inr (by unfold pkTake; rw [if_neg (by simp)])
  | [c], _ => exact .inr (by unfold pkTake; rw [if_neg (by simp)])
  | c :: d :: r, ho =>
    have hc := (octs_cons ho).1
    have hd := (octs_cons (octs_cons ho).2).1
    obtain ⟨h1, h2⟩ := pk2 c d hc hd
    have e : pkTake (c :: d :: r) 2 = (c * 256 + d, r, 0) := by
      unfold pkTake
      rw [if_pos ⟨rfl, by simp; omega⟩]
      show (tkl 0 [c, d], r, (0 : Int)) = _
      rw [h1]
    rw [e]
    refine .inl ⟨rfl, ?_, by simp only; omega, by simp only; omega⟩
    simp only
    rw [h2]; rfl
theorem take8 {b : List Int} (ho : octs b) : ((pkTake b 8).2.2 = 0 ∧ b = pkBytes 8 (pkTake b 8).1 ++ (pkTake b 8).2.1 ∧ inI (pkTake b 8).1) ∨ pkTake b 8 = (0, [], 40) := by
  by_cases h : (8 : Int) ≤ (b.length : Int)
  · have e : pkTake b 8 = (tkl 0 (b.take 8), b.drop 8, 0) := by
      unfold pkTake
      rw [if_pos ⟨rfl, h⟩]; rfl
    rw [e]
    have hb := back8 (c := b.take 8) (by rw [List.length_take]; omega) (octs_take ho 8)
    exact .inl ⟨rfl, by simp only; rw [hb, List.take_append_drop], tkl_range (octs_take ho 8)⟩
  · exact .inr (by unfold pkTake; rw [if_neg (fun hh => h hh.2)])
theorem octs_rest {b : List Int} (ho : octs b) (s : Int) : octs (pkTake b s).2.1 := by
  unfold pkTake
  split
  · exact octs_drop ho _
  · exact fun x hx => by cases hx
theorem tk_f {l : List Int} (hl : l.length ≤ 1000000000000) (size : Int) (wr : Bool) : tk size (l, wr) = some ((pkTake l size).1, (pkTake l size).2.1, wr || (pkTake l size).2.2 != 0) := by
  unfold tk
  rw [ptake_f hl]
  rfl
theorem tk1_put {n : Int} (h : byteOk n = true) (r : List Int) (hl : (n :: r).length ≤ 1000000000000) (wr : Bool) : tk 1 (n :: r, wr) = some (n, r, wr) := by
  rw [tk_f hl]
  have := take_one n 1 r (may1 (byte_iff.mp h)) (by have := byte_iff.mp h; omega) (by have := byte_iff.mp h; omega)
  rw [show (1 : Int).toNat = 1 from rfl, bytes1 (byte_iff.mp h), List.cons_append, List.nil_append] at this
  rw [this]
  simp
theorem tk8_put {n : Int} (h : inI n) (r : List Int) (hl : (pkBytes 8 n ++ r).length ≤ 1000000000000) (wr : Bool) : tk 8 (pkBytes 8 n ++ r, wr) = some (n, r, wr) := by
  rw [tk_f hl]
  have := take_one n 8 r (may8 n) h.1 h.2
  rw [show (8 : Int).toNat = 8 from rfl] at this
  rw [this]
  simp
theorem take2_put {n : Nat} (h : n ≤ 889) (r : List Int) : pkTake (pkBytes 2 (n : Int) ++ r) 2 = ((n : Int), r, 0) := take_one (n : Int) 2 r (may2 h) (by omega) (by omega)
theorem load_put (k : Nat) (hk : 100 ≤ k) (s : Int) (g : List S48) (t : S26) (r : List Int) (hg : gchk g = true) (hw : wideG g) (ht : (t.f0 = [] ∧ t.f1 = []) ∨ tchk t.f0 t.f1 = true) (hd : ∀ n ∈ t.f1, inI n) (ho : octs r) (hl : r.length ≤ 100000000000) :
    eyeLoad k (pkBytes 2 ((encG g).length : Int) ++ (encG g ++ (encI t ++ r))) false ⟨2, s, [], ⟨[], []⟩, ⟨0, 0, 0, 0⟩, 0, 0⟩ = some (r, false, ⟨2, s, g, t, ⟨0, 0, 0, 0⟩, 0, 0⟩) := by
  have l2 : ∀ n, (pkBytes 2 n).length = 2 := fun n => pkBytes_length 2 n
  have hG := encG_short hg
  have hI := encI_len ht
  have hgo := gchk_iff.mp hg
  obtain ⟨t0, t1⟩ := t
  simp only at ht hd hI
  unfold eyeLoad
  rw [ptake_f (by simp only [List.length_append, l2]; omega), take2_put hG]
  simp only [Option.bind_some]
  rw [if_neg (by simp only [List.length_append, Bool.false_or, bne_self_eq_false, decide_eq_true_eq]; omega), if_pos (by omega), Int.toNat_natCast, List.take_left, List.drop_left, wread_f (octs_encG hgo hw) (by omega)]
  have h1 := rdGraph_put hgo hw []
  rw [List.append_nil, if_pos rfl] at h1
  rw [h1]
  simp only [Option.bind_some]
  rw [ptake_f (by simp only [List.length_append]; omega)]
  simp only [Option.bind_some]
  unfold encI
  by_cases c : t0 = [] ∧ t1 = []
  · simp only
    rw [if_pos c]
    have h2 := take_one 0 1 r rfl (by omega) (by omega)
    rw [show pkBytes (1 : Int).toNat 0 = [0] from rfl] at h2
    rw [h2]
    obtain ⟨rfl, rfl⟩ := c
    simp
  · simp only
    rw [if_neg c]
    have h2 := take_one 1 1 (encT t0 t1 ++ r) rfl (by omega) (by omega)
    rw [show pkBytes (1 : Int).toNat 1 = [1] from rfl] at h2
    rw [show (1 :: encT t0 t1 ++ r) = [1] ++ (encT t0 t1 ++ r) from rfl, h2]
    have htc := ht.resolve_left c
    have hlen := encT_le htc
    show (if (1 : Int) = 0 then _ else if (1 : Int) = 1 then (image_Take.f k (encT t0 t1 ++ r)).bind _ else _) = _
    rw [if_neg (by decide), if_pos rfl, itake_f _ (octs_append (octs_encT htc) ho) (by rw [List.length_append]; omega) k hk, itake_enc r htc hd]
    simp
theorem cmd_put (k : Nat) (hk : 100 ≤ k) (x : S30) (h : OKC x) (hw : wideC x) (r : List Int) (ho : octs r) (hl : r.length ≤ 100000000000) : eyeCmd k (encC x ++ r) false = some (r, false, x) := by
  have l8 : ∀ n, (pkBytes 8 n).length = 8 := fun n => pkBytes_length 8 n
  have l2 : ∀ n, (pkBytes 2 n).length = 2 := fun n => pkBytes_length 2 n
  have hlen := (encC_len h).1
  unfold eyeCmd
  rcases h with ⟨s, g, t, rfl, h1, h2, h3⟩ | ⟨k', s, rfl, h1, h2⟩ | ⟨s, o, u, rfl, h1, h2, h3⟩ | ⟨p, rfl, h1⟩ | ⟨k', rfl, h1⟩
  · have e : encC ⟨2, s, g, t, ⟨0, 0, 0, 0⟩, 0, 0⟩ ++ r = 2 :: s :: (pkBytes 2 ((encG g).length : Int) ++ (encG g ++ (encI t ++ r))) := by
      rw [enc2]
      simp [List.append_assoc]
    have hle : (2 :: s :: (pkBytes 2 ((encG g).length : Int) ++ (encG g ++ (encI t ++ r)))).length ≤ 1000000000000 := by rw [← e, List.length_append]; omega
    rw [e, tk1_put rfl _ hle, Option.bind_some]
    show (tk 1 (s :: (pkBytes 2 ((encG g).length : Int) ++ (encG g ++ (encI t ++ r))), false)).bind _ = _
    rw [tk1_put h1 _ (by simp only [List.length_cons] at hle ⊢; omega), Option.bind_some]
    exact load_put k hk s g t r h2 hw.1 h3 hw.2.1 ho hl
  · have e : encC ⟨k', s, [], ⟨[], []⟩, ⟨0, 0, 0, 0⟩, 0, 0⟩ ++ r = k' :: s :: r := by rw [enc45 h1]; rfl
    rw [e, tk1_put (byte_iff.mpr (by omega)) _ (by simp only [List.length_cons]; omega), Option.bind_some]
    rcases h1 with rfl | rfl
    · show (tk 1 (s :: r, false)).bind _ = _
      rw [tk1_put h2 _ (by simp only [List.length_cons]; omega)]
      rfl
    · show (tk 1 (s :: r, false)).bind _ = _
      rw [tk1_put h2 _ (by simp only [List.length_cons]; omega)]
      rfl
  · obtain ⟨o0, o1, o2, o3⟩ := o
    obtain ⟨_, _, w1, w2, w3⟩ := hw
    simp only at w1 w2 w3 h2
    have e : encC ⟨3, s, [], ⟨[], []⟩, ⟨o0, o1, o2, o3⟩, u, 0⟩ ++ r = 3 :: s :: o0 :: (pkBytes 8 o1 ++ (pkBytes 8 o2 ++ (pkBytes 8 o3 ++ (u :: r)))) := by
      rw [enc3]
      simp [List.append_assoc]
    rw [e, tk1_put rfl _ (by simp only [List.length_cons, List.length_append, l8]; omega), Option.bind_some]
    show (tk 1 (s :: o0 :: (pkBytes 8 o1 ++ (pkBytes 8 o2 ++ (pkBytes 8 o3 ++ (u :: r)))), false)).bind _ = _
    rw [tk1_put h1 _ (by simp only [List.length_cons, List.length_append, l8]; omega), Option.bind_some]
    show (tk 1 (o0 :: (pkBytes 8 o1 ++ (pkBytes 8 o2 ++ (pkBytes 8 o3 ++ (u :: r)))), false)).bind _ = _
    rw [tk1_put h2 _ (by simp only [List.length_cons, List.length_append, l8]; omega), Option.bind_some]
    have hr : tkRest 3 (pkBytes 8 o1 ++ (pkBytes 8 o2 ++ (pkBytes 8 o3 ++ (u :: r))), false) ⟨o0, 0, 0, 0⟩ = some (u :: r, false, ⟨o0, o1, o2, o3⟩) := by
      rw [tkRest, tk8_put w1 _ (by simp only [List.length_cons, List.length_append, l8]; omega), Option.bind_some, if_pos rfl, tkRest, tk8_put w2 _ (by simp only [List.length_cons, List.length_append, l8]; omega), Option.bind_some, if_neg (by decide), if_pos rfl, tkRest, tk8_put w3 _ (by simp only [List.length_cons, List.length_append, l8]; omega), Option.bind_some, if_neg (by decide), if_neg (by decide), tkRest]
    show (tkRest 3 (pkBytes 8 o1 ++ (pkBytes 8 o2 ++ (pkBytes 8 o3 ++ (u :: r))), false) ⟨o0, 0, 0, 0⟩).bind _ = _
    rw [hr, Option.bind_some]
    show (tk 1 (u :: r, false)).bind _ = _
    rw [tk1_put h3 _ (by simp only [List.length_cons]; omega)]
    rfl
  · have e : encC ⟨8, 0, [], ⟨[], []⟩, ⟨0, 0, 0, 0⟩, 0, p⟩ ++ r = 8 :: p :: r := by rw [enc8]; rfl
    rw [e, tk1_put rfl _ (by simp only [List.length_cons]; omega), Option.bind_some]
    show (tk 1 (p :: r, false)).bind _ = _
    rw [tk1_put h1 _ (by simp only [List.length_cons]; omega)]
    rfl
  · have e : encC ⟨k', 0, [], ⟨[], []⟩, ⟨0, 0, 0, 0⟩, 0, 0⟩ ++ r = k' :: r := by rw [enc1 h1]; rfl
    rw [e, tk1_put (byte_iff.mpr (by omega)) _ (by simp only [List.length_cons]; omega), Option.bind_some]
    rcases h1 with rfl | rfl | rfl <;> rfl
theorem octs_encI {t : S26} (h : (t.f0 = [] ∧ t.f1 = []) ∨ tchk t.f0 t.f1 = true) : octs (encI t) := by
  unfold encI
  by_cases c : t.f0 = [] ∧ t.f1 = []
  · rw [if_pos c]; intro x hx; obtain rfl := List.mem_singleton.1 hx; omega
  · rw [if_neg c]
    intro x hx
    rcases List.mem_cons.1 hx with rfl | hx
    · omega
    · exact octs_encT (h.resolve_left c) x hx
theorem octs_one {n : Int} (h : byteOk n = true) {r : List Int} (hr : octs r) : octs (n :: r) := fun x hx => by
  rcases List.mem_cons.1 hx with rfl | hx
  · have := byte_iff.mp h; omega
  · exact hr x hx
theorem octs_nil : octs [] := fun x hx => by cases hx
theorem octs_encC {x : S30} (h : OKC x) : octs (encC x) := by
  rcases h with ⟨s, g, t, rfl, h1, h2, h3⟩ | ⟨k', s, rfl, h1, h2⟩ | ⟨s, o, u, rfl, h1, h2, h3⟩ | ⟨p, rfl, h1⟩ | ⟨k', rfl, h1⟩
  · rw [enc2]
    exact octs_one rfl (octs_one h1 (octs_append (octs_bytes _ _) (octs_append (octs_encG' (gchk_iff.mp h2)) (octs_encI h3))))
  · rw [enc45 h1]
    exact octs_one (byte_iff.mpr (by omega)) (octs_one h2 octs_nil)
  · rw [enc3]
    exact octs_one rfl (octs_one h1 (octs_one h2 (octs_append (octs_bytes _ _) (octs_append (octs_bytes _ _) (octs_append (octs_bytes _ _) (octs_one h3 octs_nil))))))
  · rw [enc8]
    exact octs_one rfl (octs_one h1 octs_nil)
  · rw [enc1 h1]
    exact octs_one (byte_iff.mpr (by omega)) octs_nil
theorem graph_small {b : List Int} (ho : octs b) : (rdGraph b).1.length ≤ 24 := by
  by_cases h : (rdGraph b).2 = 0
  · exact (rdGraph_inv ho h).1.le
  · rw [rdGraph_err h]; simp
theorem load_inv (k : Nat) (hk : 100 ≤ k) (s : Int) (l : List Int) (wr0 : Bool) (ho : octs l) (hl : l.length ≤ 1000000000000) :
    ∃ r wr y, eyeLoad k l wr0 ⟨2, s, [], ⟨[], []⟩, ⟨0, 0, 0, 0⟩, 0, 0⟩ = some (r, wr, y) ∧ r.length ≤ l.length ∧ smallC y ∧
      (wr = false → wr0 = false ∧ octs r ∧ ∃ g t, y = ⟨2, s, g, t, ⟨0, 0, 0, 0⟩, 0, 0⟩ ∧ l = pkBytes 2 ((encG g).length : Int) ++ (encG g ++ (encI t ++ r)) ∧ gchk g = true ∧ wideG g ∧ ((t.f0 = [] ∧ t.f1 = []) ∨ tchk t.f0 t.f1 = true) ∧ ∀ n ∈ t.f1, inI n) := by
  unfold eyeLoad
  rw [ptake_f hl]
  simp only [Option.bind_some]
  have small0 : smallC ⟨2, s, [], ⟨[], []⟩, ⟨0, 0, 0, 0⟩, 0, 0⟩ := ⟨by simp, by simp, by simp⟩
  have hrl := take_len l 2
  have hor := octs_rest ho 2
  by_cases hc : (wr0 || (pkTake l 2).2.2 != 0 || decide (((pkTake l 2).2.1.length : Int) < (pkTake l 2).1)) = true
  · rw [if_pos hc]
    exact ⟨_, _, _, rfl, hrl, small0, fun h => by cases h⟩
  · rw [if_neg hc]
    rw [Bool.not_eq_true, Bool.or_eq_false_iff, Bool.or_eq_false_iff, decide_eq_false_iff_not] at hc
    obtain ⟨⟨hw0, hz⟩, hn⟩ := hc
    have hz : (pkTake l 2).2.2 = 0 := by simpa using hz
    rcases take2 ho with ⟨_, e1, n0, n1⟩ | e1
    · generalize (pkTake l 2).1 = n at e1 n0 n1 hn ⊢
      generalize (pkTake l 2).2.1 = p at e1 hn hrl hor ⊢
      rw [if_pos n0, wread_f (octs_take hor _) (by rw [List.length_take]; omega)]
      simp only [Option.bind_some]
      have hod := octs_drop hor n.toNat
      have hdl : (p.drop n.toNat).length ≤ 1000000000000 := by rw [List.length_drop]; omega
      rw [ptake_f hdl]
      simp only [Option.bind_some]
      have hgs := graph_small (octs_take hor n.toNat)
      have hpt := List.take_append_drop n.toNat p
      have hql := take_len (p.drop n.toNat) 1
      have hdl2 : (p.drop n.toNat).length ≤ p.length := by rw [List.length_drop]; omega
      have htl : (p.take n.toNat).length = n.toNat := by rw [List.length_take]; omega
      have hinv := fun h => rdGraph_inv (octs_take hor n.toNat) h
      generalize p.take n.toNat = u at hgs hpt htl hinv ⊢
      generalize p.drop n.toNat = q at hod hdl hpt hql hdl2 ⊢
      have hoq := octs_rest hod 1
      have smallG : ∀ t : S26, t.f0.length ≤ 1000000000 → t.f1.length ≤ 1000000000 → smallC ⟨2, s, (rdGraph u).1, t, ⟨0, 0, 0, 0⟩, 0, 0⟩ := fun t h1 h2 => ⟨by simp only; omega, h1, h2⟩
      by_cases h0 : (pkTake q 1).1 = 0
      · rw [if_pos h0]
        refine ⟨_, _, _, rfl, by omega, smallG ⟨[], []⟩ (by simp) (by simp), fun h => ?_⟩
        rw [Bool.or_eq_false_iff] at h
        have g1 : (pkTake q 1).2.2 = 0 := by simpa using h.1
        have g2 : (rdGraph u).2 = 0 := by simpa using h.2
        obtain ⟨i1, i2, i3⟩ := hinv g2
        rcases take1 hod with ⟨_, e2, _⟩ | ⟨_, e2⟩
        · refine ⟨hw0, hoq, _, _, rfl, ?_, gchk_iff.mpr i1, i2, .inl ⟨rfl, rfl⟩, fun n hn => by cases hn⟩
          rw [i3, htl, show ((n.toNat : Nat) : Int) = n by omega, show encI ⟨[], []⟩ = [0] from rfl]
          rw [h0] at e2
          rw [show ([0] ++ (pkTake q 1).2.1 : List Int) = q from e2.symm, hpt]
          exact e1
        · rw [e2] at g1; cases g1
      · rw [if_neg h0]
        by_cases h1 : (pkTake q 1).1 = 1
        · rw [if_pos h1, itake_f _ hoq (by omega) k hk]
          simp only [Option.bind_some]
          obtain ⟨s1, s2, s3⟩ := itake_small hoq
          refine ⟨_, _, _, rfl, by omega, smallG ⟨_, _⟩ (by simp only; omega) (by simp only; omega), fun h => ?_⟩
          rw [Bool.or_eq_false_iff, Bool.or_eq_false_iff] at h
          have g1 : (pkTake q 1).2.2 = 0 := by simpa using h.1.1
          have g2 : (rdGraph u).2 = 0 := by simpa using h.1.2
          have g3 : (itake (pkTake q 1).2.1).2.2.2 = 0 := by simpa using h.2
          obtain ⟨i1, i2, i3⟩ := hinv g2
          obtain ⟨j1, j2, j3, j4⟩ := itake_inv hoq g3
          rcases take1 hod with ⟨_, e2, _⟩ | ⟨_, e2⟩
          · refine ⟨hw0, j3, _, _, rfl, ?_, gchk_iff.mpr i1, i2, .inr j1, j4⟩
            rw [i3, htl, show ((n.toNat : Nat) : Int) = n by omega]
            have c : ¬ ((itake (pkTake q 1).2.1).1 = [] ∧ (itake (pkTake q 1).2.1).2.1 = []) := fun c => by rw [encT_not _ _ c] at j1; cases j1
            unfold encI
            simp only
            rw [if_neg c, List.cons_append, ← j2]
            rw [h1] at e2
            rw [← e2, hpt]
            exact e1
          · rw [e2] at g1; cases g1
        · rw [if_neg h1]
          exact ⟨_, _, _, rfl, by omega, smallG ⟨[], []⟩ (by simp) (by simp), fun h => by cases h⟩
    · rw [e1] at hz; cases hz
theorem cmd_inv (k : Nat) (hk : 100 ≤ k) (b : List Int) (ho : octs b) (hb : b ≠ []) (hl : b.length ≤ 1000000000000) :
    ∃ r wr y, eyeCmd k b false = some (r, wr, y) ∧ r.length < b.length ∧ smallC y ∧ (wr = false → OKC y → b = encC y ++ r ∧ octs r ∧ wideC y) := by
  unfold eyeCmd
  rw [tk_f hl]
  simp only [Option.bind_some]
  rcases take1 ho with ⟨ez, eb, k0, k1⟩ | ⟨e, _⟩
  · have ho1 := octs_rest ho 1
    have hl1 : (pkTake b 1).2.1.length < b.length := by
      have := congrArg List.length eb
      simp only [List.length_cons] at this
      omega
    rw [ez]
    generalize (pkTake b 1).1 = n at eb k0 k1 ⊢
    generalize (pkTake b 1).2.1 = p at eb ho1 hl1 ⊢
    simp only [bne_self_eq_false, Bool.or_false]
    obtain ⟨s, q, wq, hq, hql, hoq, hqi⟩ : ∃ s q wq, (if 2 ≤ n ∧ n ≤ 5 then tk 1 (p, false) else some (0, p, false)) = some (s, q, wq) ∧ q.length ≤ p.length ∧ octs q ∧ (wq = false → p = (if 2 ≤ n ∧ n ≤ 5 then [s] else []) ++ q) := by
      by_cases c : 2 ≤ n ∧ n ≤ 5
      · rw [if_pos c, tk_f (by omega)]
        refine ⟨_, _, _, rfl, take_len p 1, octs_rest ho1 1, fun h => ?_⟩
        rw [if_pos c]
        rcases take1 ho1 with ⟨_, e2, _⟩ | ⟨_, e2⟩
        · exact e2
        · rw [e2] at h; cases h
      · rw [if_neg c]
        exact ⟨0, p, false, rfl, Nat.le_refl _, ho1, fun _ => by rw [if_neg c]; rfl⟩
    rw [hq]
    simp only [Option.bind_some]
    have hz : ∀ (x : S30), x.f2 = [] → x.f3 = ⟨[], []⟩ → smallC x := fun x h1 h2 => ⟨by rw [h1]; simp, by rw [h2]; simp, by rw [h2]; simp⟩
    have hwz : ∀ (x : S30), x.f2 = [] → x.f3 = ⟨[], []⟩ → inI x.f4.f1 → inI x.f4.f2 → inI x.f4.f3 → wideC x := fun x h1 h2 a1 a2 a3 => ⟨(by rw [h1]; intro n hn; cases hn), (by rw [h2]; intro n hn; cases hn), a1, a2, a3⟩
    have i0 : inI 0 := ⟨by omega, by omega⟩
    by_cases c2 : n = 2
    · subst c2
      rw [if_pos rfl]
      obtain ⟨r, wr, y, h1, h2, h3, h4⟩ := load_inv k hk s q wq hoq (by omega)
      refine ⟨r, wr, y, h1, by omega, h3, fun hw _ => ?_⟩
      obtain ⟨g1, g2, g, t, rfl, g3, g4, g5, g6, g7⟩ := h4 hw
      refine ⟨?_, g2, g5, g7, i0, i0, i0⟩
      have hp := hqi g1
      rw [if_pos (by omega)] at hp
      rw [enc2, eb, hp, g3]
      simp [List.append_assoc]
    · rw [if_neg c2]
      by_cases c3 : n = 3
      · subst c3
        rw [if_pos rfl]
        rw [tk_f (by omega)]
        simp only [Option.bind_some]
        have t1 := take1 hoq
        have o1 := octs_rest hoq 1
        have m1 := take_len q 1
        generalize (pkTake q 1).1 = a0 at t1 ⊢
        generalize (pkTake q 1).2.1 = b1 at t1 o1 m1 ⊢
        generalize hz1 : (pkTake q 1).2.2 = z1 at t1 ⊢
        simp only [tkRest]
        rw [tk_f (by omega)]
        simp only [Option.bind_some]
        have t2 := take8 o1
        have o2 := octs_rest o1 8
        have m2 := take_len b1 8
        generalize (pkTake b1 8).1 = a1 at t2 ⊢
        generalize (pkTake b1 8).2.1 = b2 at t2 o2 m2 ⊢
        generalize hz2 : (pkTake b1 8).2.2 = z2 at t2 ⊢
        rw [tk_f (by omega)]
        simp only [Option.bind_some]
        have t3 := take8 o2
        have o3 := octs_rest o2 8
        have m3 := take_len b2 8
        generalize (pkTake b2 8).1 = a2 at t3 ⊢
        generalize (pkTake b2 8).2.1 = b3 at t3 o3 m3 ⊢
        generalize hz3 : (pkTake b2 8).2.2 = z3 at t3 ⊢
        rw [tk_f (by omega)]
        simp only [Option.bind_some]
        have t4 := take8 o3
        have o4 := octs_rest o3 8
        have m4 := take_len b3 8
        generalize (pkTake b3 8).1 = a3 at t4 ⊢
        generalize (pkTake b3 8).2.1 = b4 at t4 o4 m4 ⊢
        generalize hz4 : (pkTake b3 8).2.2 = z4 at t4 ⊢
        rw [tk_f (by omega)]
        simp only [Option.bind_some]
        have t5 := take1 o4
        have o5 := octs_rest o4 1
        have m5 := take_len b4 1
        generalize (pkTake b4 1).1 = a4 at t5 ⊢
        generalize (pkTake b4 1).2.1 = b5 at t5 o5 m5 ⊢
        generalize hz5 : (pkTake b4 1).2.2 = z5 at t5 ⊢
        refine ⟨_, _, _, rfl, by omega, hz _ rfl rfl, fun hw _ => ?_⟩
        simp only [Bool.or_eq_false_iff, bne_eq_false_iff_eq] at hw
        obtain ⟨⟨⟨⟨⟨w0, w1⟩, w2⟩, w3⟩, w4⟩, w5⟩ := hw
        have hp := hqi w0
        rw [if_pos (by omega)] at hp
        have u1 : q = a0 :: b1 := by
          rcases t1 with t | ⟨_, t⟩
          · exact t.2.1
          · rw [t] at hz1; simp only at hz1; omega
        have u2 : b1 = pkBytes 8 a1 ++ b2 ∧ inI a1 := by
          rcases t2 with t | t
          · exact t.2
          · rw [t] at hz2; simp only at hz2; omega
        have u3 : b2 = pkBytes 8 a2 ++ b3 ∧ inI a2 := by
          rcases t3 with t | t
          · exact t.2
          · rw [t] at hz3; simp only at hz3; omega
        have u4 : b3 = pkBytes 8 a3 ++ b4 ∧ inI a3 := by
          rcases t4 with t | t
          · exact t.2
          · rw [t] at hz4; simp only at hz4; omega
        have u5 : b4 = a4 :: b5 := by
          rcases t5 with t | ⟨_, t⟩
          · exact t.2.1
          · rw [t] at hz5; simp only at hz5; omega
        refine ⟨?_, o5, hwz _ rfl rfl u2.2 u3.2 u4.2⟩
        rw [enc3, eb, hp, u1, u2.1, u3.1, u4.1, u5]
        simp [List.append_assoc]
      · rw [if_neg c3]
        by_cases c8 : n = 8
        · subst c8
          rw [if_pos rfl, tk_f (by omega)]
          simp only [Option.bind_some]
          have m1 := take_len q 1
          refine ⟨_, _, _, rfl, by omega, hz _ rfl rfl, fun hw hok => ?_⟩
          rw [Bool.or_eq_false_iff] at hw
          have hp := hqi hw.1
          rw [if_neg (by omega)] at hp
          have hs : s = 0 := by
            rw [if_neg (by omega)] at hq
            simp only [Option.some.injEq, Prod.mk.injEq] at hq
            exact hq.1.symm
          rcases take1 hoq with ⟨_, e2, _⟩ | ⟨_, e2⟩
          · refine ⟨?_, octs_rest hoq 1, hwz _ rfl rfl i0 i0 i0⟩
            rw [enc8, eb, hp, List.nil_append]
            exact congrArg (List.cons 8) e2
          · rw [e2] at hw; cases hw.2
        · rw [if_neg c8]
          refine ⟨_, _, _, rfl, by omega, hz _ rfl rfl, fun hw hok => ?_⟩
          have hp := hqi hw
          refine ⟨?_, hoq, hwz _ rfl rfl i0 i0 i0⟩
          unfold encC
          simp only
          rw [if_neg c2, if_neg c3, if_neg c8, eb, hp]
          simp
  · exact absurd e hb
theorem all_put (k : Nat) (hk : 100 ≤ k) : ∀ (l : List S30) (m n : Nat), (∀ x ∈ l, OKC x ∧ wideC x ∧ smallC x) → l.length < m → n + l.length ≤ 1000000 → l.length ≤ 1000000 → rdAll k m n (encCs l) = some (some l) := by
  intro l
  induction l with
  | nil =>
    intro m n _ hm _ _
    obtain ⟨m, rfl⟩ : ∃ q, m = q + 1 := ⟨m - 1, by simp at hm; omega⟩
    rw [rdAll, if_pos (by rfl)]
  | cons x r ih =>
    intro m n h hm hn hlen
    simp only [List.length_cons] at hm hn hlen
    obtain ⟨m, rfl⟩ : ∃ q, m = q + 1 := ⟨m - 1, by omega⟩
    obtain ⟨h1, h2, h3⟩ := h x List.mem_cons_self
    have hc := encC_len h1
    have hr : octs (encCs r) := by
      intro y hy
      obtain ⟨z, hz, hy⟩ := List.mem_flatMap.mp hy
      exact octs_encC (h z (List.mem_cons_of_mem _ hz)).1 y hy
    have hrl : (encCs r).length ≤ 2000 * r.length := encs_len r (fun z hz => (h z (List.mem_cons_of_mem _ hz)).1)
    have e : encCs (x :: r) = encC x ++ encCs r := rfl
    obtain ⟨b, hb, hbi⟩ := chk_ex x h3 k (by omega)
    rw [hbi.mpr h1] at hb
    rw [rdAll, e, if_neg (by intro he; have := congrArg List.length he; rw [List.length_append, List.length_nil] at this; omega), if_pos (by omega), cmd_put k hk x h1 h2 _ hr (by omega)]
    simp only [Option.bind_some]
    rw [if_neg (by decide), hb]
    simp only [Option.bind_some, if_true]
    rw [ih m (n + 1) (fun z hz => h z (List.mem_cons_of_mem _ hz)) (by omega) (by omega) (by omega)]
    rfl
theorem all_inv (k : Nat) (hk : 100 ≤ k) : ∀ (m n : Nat) (b : List Int), octs b → b.length < m → n + b.length ≤ 1000000 → ∃ o, rdAll k m n b = some o ∧ ∀ l, o = some l → (∀ x ∈ l, OKC x ∧ wideC x ∧ smallC x) ∧ encCs l = b ∧ l.length ≤ b.length := by
  intro m
  induction m with
  | zero => intro n b _ h; omega
  | succ m ih =>
    intro n b ho hm hn
    by_cases hb : b = []
    · subst hb
      rw [rdAll, if_pos rfl]
      exact ⟨some [], rfl, fun l hl => by cases hl; exact ⟨fun x hx => (by cases hx), rfl, Nat.le_refl _⟩⟩
    · obtain ⟨r, wr, y, h1, h2, h3, h4⟩ := cmd_inv k hk b ho hb (by omega)
      have hpos := List.length_pos_iff.mpr hb
      rw [rdAll, if_neg hb, if_pos (by omega), h1]
      simp only [Option.bind_some]
      cases wr with
      | true => exact ⟨none, rfl, fun l hl => by cases hl⟩
      | false =>
        rw [if_neg (by decide)]
        obtain ⟨c, hc, hci⟩ := chk_ex y h3 k (by omega)
        rw [hc]
        simp only [Option.bind_some]
        cases c with
        | false => exact ⟨none, rfl, fun l hl => by cases hl⟩
        | true =>
          have hy := hci.mp rfl
          obtain ⟨g1, g2, g3⟩ := h4 rfl hy
          simp only [if_true]
          obtain ⟨o, ho', hoi⟩ := ih (n + 1) r g2 (by omega) (by omega)
          rw [ho']
          refine ⟨_, rfl, fun l hl => ?_⟩
          obtain ⟨t, rfl, rfl⟩ := Option.map_eq_some_iff.mp hl
          obtain ⟨i1, i2, i3⟩ := hoi t rfl
          refine ⟨fun x hx => ?_, ?_, by simp only [List.length_cons]; omega⟩
          · rcases List.mem_cons.mp hx with rfl | hx
            · exact ⟨hy, g3, h3⟩
            · exact i1 x hx
          · show encC y ++ encCs t = b
            rw [i2, ← g1]
theorem clone_f (b : List Int) (h : b.length ≤ 1000000000000) : slices_Clone_byte_byte.f b = some b := by unfold slices_Clone_byte_byte.f; rw [if_pos (by omega)]
theorem read_inv (b : List Int) (ho : octs b) (hb : b.length ≤ 1000000) (k : Nat) (hk : b.length + 100 ≤ k) :
    (∃ l, script_Read.f k b = some (l, 0) ∧ (∀ x ∈ l, OKC x ∧ wideC x ∧ smallC x) ∧ encCs l = b ∧ l.length ≤ b.length) ∨ script_Read.f k b = some ([], 230) := by
  unfold script_Read.f
  rw [clone_f b (by omega), Option.bind_some]
  obtain ⟨o, h, hi⟩ := all_inv k (by omega) k 0 b ho (by omega) (by omega)
  rw [h, Option.map_some]
  cases o with
  | none => exact .inr rfl
  | some l => exact .inl ⟨l, rfl, hi l rfl⟩
theorem read_put (l : List S30) (h : ∀ x ∈ l, OKC x ∧ wideC x ∧ smallC x) (hl : l.length ≤ 1000000) (k : Nat) (hk : l.length + 100 ≤ k) : script_Read.f k (encCs l) = some (l, 0) := by
  unfold script_Read.f
  have := encs_len l (fun x hx => (h x hx).1)
  rw [clone_f _ (by omega), Option.bind_some, all_put k (by omega) l k 0 h (by omega) (by omega) hl]
  rfl
theorem cut_no {x : S30} (h : OKC x ∧ wideC x ∧ smallC x) {p t : List Int} (e : encC x = p ++ t) (hp : p ≠ []) (ht : t ≠ []) (l : List S30) (hl : ∀ x ∈ l, OKC x ∧ wideC x ∧ smallC x) (hlp : encCs l = p) : False := by
  cases l with
  | nil => exact hp hlp.symm
  | cons y r =>
    have hx := encC_len h.1
    have hy := hl y List.mem_cons_self
    have ho : octs (encC x) := octs_encC h.1
    have e2 : encC x = encC y ++ (encCs r ++ t) := by rw [e, ← hlp]; simp [encCs, List.append_assoc]
    have hlen := congrArg List.length e2
    simp only [List.length_append] at hlen
    have ot : octs (encCs r ++ t) := fun z hz => ho z (by rw [e2]; exact List.mem_append.mpr (.inr hz))
    have h1 := cmd_put 100 (Nat.le_refl _) x h.1 h.2.1 [] octs_nil (by simp)
    have h2 := cmd_put 100 (Nat.le_refl _) y hy.1 hy.2.1 (encCs r ++ t) ot (by rw [List.length_append]; omega)
    rw [List.append_nil, e2, h2] at h1
    simp only [Option.some.injEq, Prod.mk.injEq] at h1
    exact ht (List.append_eq_nil_iff.mp h1.1).2
end Go.Proofs.Ytjcgadfmhfhbgaa.Plain
