/- What FixOrder answers, once it is known which of its parts hold; no conditions. -/
import Derived.Test.YtkebkghhncelpaaFixE
import Derived.Test.YtkebkghhncelpaaFixK
import Derived.Deep.DeepCutAuto
import Derived.Deep.DeepFit
namespace Go.Proofs.Ytkebkghhncelpaa.A
open Go.RowKit Go.Proofs.YtkebkghhncelpaaW.PrintWords Go.Proofs.YtkebkghhncelpaaW.PrintLast Go.Proofs.YtkebkghhncelpaaW.PrintMore
attribute [local go_sem] max2_int min2_int max_two min_two max_three min_three max_four min_four
set_option linter.unusedVariables false
set_option linter.unusedSimpArgs false
set_option maxHeartbeats 8000000 in
set_option maxRecDepth 100000 in
theorem order_calls (K : Nat) (a b c l g x e y f p gg q h d i k j m o n u : Int) (w : World) (hl : (if b < a then b else a) = l) (hg : (if a < b then b else a) = g)
    (c0 : fullerlaw01_awake.f K = some true) (c1 : fix_Add.f l c = some (x, e)) (c2 : fix_Add.f g c = some (y, f)) (c3 : fix_Mul.f l c = some (p, gg)) (c4 : fix_Mul.f g c = some (q, h))
    (c5 : fix_Div.f K l c = some (d, i)) (c6 : fix_Div.f K g c = some (k, j)) (c7 : fix_Pow.f K l = some (m, u)) (c8 : fix_Pow.f K g = some (n, o))
    (s1 : (e != 0) = true ∨ (e != 0) = false ∧ (f != 0) = true ∨ (e != 0) = false ∧ (f != 0) = false ∧ decide (x ≤ y) = true)
    (s2 : (gg != 0) = true ∨ (gg != 0) = false ∧ (h != 0) = true ∨ (gg != 0) = false ∧ (h != 0) = false ∧ decide (c < 0) = true ∨ (gg != 0) = false ∧ (h != 0) = false ∧ decide (c < 0) = false ∧ decide (p ≤ q) = true)
    (s3 : (i != 0) = true ∨ (i != 0) = false ∧ (j != 0) = true ∨ (i != 0) = false ∧ (j != 0) = false ∧ decide (c ≤ 0) = true ∨ (i != 0) = false ∧ (j != 0) = false ∧ decide (c ≤ 0) = false ∧ decide (d ≤ k) = true)
    (s4 : (o != 0) = true ∨ (o != 0) = false ∧ (u == 0) = true ∧ decide (m ≤ n) = true ∧ decide (0 ≤ m) = true) :
    Calls Try.prog 5 #[.int .i64 a, .int .i64 b, .int .i64 c] w fun e w' => e = .returned (.bool true) ∧ Below w.heap.size w w' := by
  have C0 := Aside0.mk c0
  have C1 := Aside0.mk c1
  have C2 := Aside0.mk c2
  have C3 := Aside0.mk c3
  have C4 := Aside0.mk c4
  have C5 := Aside0.mk c5
  have C6 := Aside0.mk c6
  have C7 := Aside0.mk c7
  have C8 := Aside0.mk c8
  have S1 := Aside0.mk s1
  have S2 := Aside0.mk s2
  have S3 := Aside0.mk s3
  have S4 := Aside0.mk s4
  clear c0 c1 c2 c3 c4 c5 c6 c7 c8 s1 s2 s3 s4
  have HB := Aside0.mk (Below.refl w.heap.size w)
  go_enter Try.func5, Try.ntmps5
  go_wp2_with fail
  refine (fullerlaw01_awake.calls K true _ C0.out).mono ?_
  rintro e' w1 ⟨rfl, hb⟩
  have HB := Aside0.mk hb
  clear hb
  go_wp2_with fail
  clear hl hg
  refine (fix_Add.calls l c x e _ C1.out).mono ?_
  rintro e' w' ⟨rfl, ⟨nd, rfl⟩⟩
  go_wp2_with fail
  refine (fix_Add.calls g c y f _ C2.out).mono ?_
  rintro e' w' ⟨rfl, ⟨nd1, rfl⟩⟩
  go_wp2_with fail
  refine (fix_Mul.calls l c p gg _ C3.out).mono ?_
  rintro e' w2 ⟨rfl, hb⟩
  replace HB := Aside0.mk (below_step (bq0_ HB.out) hb)
  clear hb
  go_wp2_with fail
  refine (fix_Mul.calls g c q h _ C4.out).mono ?_
  rintro e' w3 ⟨rfl, hb⟩
  replace HB := Aside0.mk (below_step HB.out hb)
  clear hb
  go_wp2_with fail
  refine (fix_Div.calls K l c d i _ C5.out).mono ?_
  rintro e' w4 ⟨rfl, hb⟩
  replace HB := Aside0.mk (below_step HB.out hb)
  clear hb
  go_wp2_with fail
  refine (fix_Div.calls K g c k j _ C6.out).mono ?_
  rintro e' w5 ⟨rfl, hb⟩
  replace HB := Aside0.mk (below_step HB.out hb)
  clear hb
  go_wp2_with fail
  refine (fix_Pow.calls K l m u _ C7.out).mono ?_
  rintro e' w6 ⟨rfl, hb⟩
  replace HB := Aside0.mk (below_step HB.out hb)
  clear hb
  go_wp2_with fail
  refine (fix_Pow.calls K g n o _ C8.out).mono ?_
  rintro e' w7 ⟨rfl, hb⟩
  replace HB := Aside0.mk (below_step HB.out hb)
  clear hb C0 C1 C2 C3 C4 C5 C6 C7 C8
  go_upto_region 12 with fail
  go_cut [26] (fun s wx => s = .bool true ∧ w7 = wx)
  case first =>
    have s1 := S1.out
    clear S1 S2 S3 S4
    rcases s1 with s | ⟨s, t⟩ | ⟨s, t, v⟩
    all_goals
      go_wp2_with fail
      go_meet
      exact ⟨rfl, rfl⟩
  case rest =>
    obtain ⟨rfl, rfl⟩ := hcut
    clear S1
    go_upto_region 13 with fail
    go_cut [27] (fun s wx => s = .bool true ∧ w7 = wx)
    case first =>
      have s1 := S2.out
      clear S2 S3 S4
      rcases s1 with s | ⟨s, t⟩ | ⟨s, t, v⟩ | ⟨s, t, v, z⟩
      all_goals
        go_wp2_with fail
        go_meet
        exact ⟨rfl, rfl⟩
    case rest =>
      obtain ⟨rfl, rfl⟩ := hcut
      clear S2
      go_upto_region 14 with fail
      go_cut [28] (fun s wx => s = .bool true ∧ w7 = wx)
      case first =>
        have s1 := S3.out
        clear S3 S4
        rcases s1 with s | ⟨s, t⟩ | ⟨s, t, v⟩ | ⟨s, t, v, z⟩
        all_goals
          go_wp2_with fail
          go_meet
          exact ⟨rfl, rfl⟩
      case rest =>
        obtain ⟨rfl, rfl⟩ := hcut
        have s1 := S4.out
        clear S3 S4
        rcases s1 with s | ⟨s, t, v, z⟩
        all_goals
          go_wp2_with fail
          go_ret
          exact ⟨rfl, HB.out⟩
end Go.Proofs.Ytkebkghhncelpaa.A
