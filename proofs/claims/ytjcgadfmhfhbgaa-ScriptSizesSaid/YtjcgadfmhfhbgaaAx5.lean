/- Lean functions that answer as the Go functions do, and the proofs that they do; no conditions. Written by this session's own driver: a scratch copy of the kit's print with the session's additions (wip/xprint). -/
import Derived.Test.YtjcgadfmhfhbgaaAx0
import Derived.Test.YtjcgadfmhfhbgaaAx4
namespace Go.Proofs.Ytjcgadfmhfhbgaa.A
open Go.RowKit Go.Proofs.YtjcgadfmhfhbgaaW.PrintWords Go.Proofs.YtjcgadfmhfhbgaaW.PrintLast Go.Proofs.YtjcgadfmhfhbgaaW.PrintMore
attribute [local go_sem] max2_int min2_int max_two min_two max_three min_three max_four min_four
set_option linter.unusedVariables false
set_option linter.unusedSimpArgs false
mutual
def pack_put.j0 : Nat → List Int → Int → Int → Option (List Int)
 | 0, _, _, _ => none
 | k + 1, x0, x1, x7 => pack_put.l0 k x0 x1 (wrap64 (x7 - 8))
def pack_put.l0 : Nat → List Int → Int → Int → Option (List Int)
 | 0, _, _, _ => none
 | k + 1, x0, x1, x8 => if x8 ≥ 0 then (if 0 ≤ x8 then (if x0.length < 140737488355328 then (pack_put.l0 k (x0 ++ [(shr .i64 x1 x8) % 256]) x1 (wrap64 (x8 - 8))) else (none)) else (none)) else (some x0)
end
def pack_put.f (k : Nat) (l0 : List Int) (a1 : Int) (a2 : Int) : Option (List Int) := (pack_bits.f a2).bind fun t123 => (if t123 = 64 then ((pack_must.f true).bind fun _ => (pack_put.j0 k l0 a1 t123)) else (if a1 ≥ 0 then (if 0 ≤ t123 then ((pack_must.f (decide (a1 < (shl .i64 1 t123)))).bind fun _ => (pack_put.j0 k l0 a1 t123)) else (none)) else ((pack_must.f false).bind fun _ => (pack_put.j0 k l0 a1 t123))))
set_option maxHeartbeats 8000000 in
set_option maxRecDepth 100000 in
theorem pack_put.calls (k : Nat) (P0_ : Nat → Prop) (u9000_ : Value) (l0 : List Int) (a1 : Int) (a2 : Int) (r : List Int) (w0 w : World) (hB : Below w0.heap.size w0 w) (ho0 : Kd.R (Kd.int .u8) 5 w w0.heap.size P0_ u9000_ l0) (h : pack_put.f k l0 a1 a2 = some r) :
  Calls Try.prog 70 #[u9000_, .int .i64 a1, .int .i64 a2] w fun e w' => ∃ v0_ : Value, e = .returned (v0_) ∧ Kd.R (Kd.int .u8) 5 w' w0.heap.size (fun k_ => (P0_ k_ ∨ w.heap.size ≤ k_)) v0_ r ∧ Below w0.heap.size w0 w' ∧ Kept w w' (fun k_ => P0_ k_) := by
 have HO0 := Aside0.mk (show Kd.R (Kd.int .u8) 5 w w0.heap.size (fun k_ => (P0_ k_ ∨ w.heap.size ≤ k_)) u9000_ l0 from Kd.R_mono ho0 (fun k_ hk => (.inl hk)))
 have HK := Aside0.mk (Kept.refl w (fun k_ => P0_ k_))
 have HW0 := Aside0.mk hB.size
 have HB := Aside0.mk hB
 clear hB
 have H : ((pack_bits.f a2).bind fun t123 => (if t123 = 64 then ((pack_must.f true).bind fun _ => (pack_put.j0 k l0 a1 t123)) else (if a1 ≥ 0 then (if 0 ≤ t123 then ((pack_must.f (decide (a1 < (shl .i64 1 t123)))).bind fun _ => (pack_put.j0 k l0 a1 t123)) else (none)) else ((pack_must.f false).bind fun _ => (pack_put.j0 k l0 a1 t123))))) = some r := h
 clear h
 replace H := Option.bind_eq_some_iff.mp H
 obtain ⟨t123, A40, H⟩ := H
 replace H : (if t123 = 64 then ((pack_must.f true).bind fun _ => (pack_put.j0 k l0 a1 t123)) else (if a1 ≥ 0 then (if 0 ≤ t123 then ((pack_must.f (decide (a1 < (shl .i64 1 t123)))).bind fun _ => (pack_put.j0 k l0 a1 t123)) else (none)) else ((pack_must.f false).bind fun _ => (pack_put.j0 k l0 a1 t123)))) = some r := H
 have A4 := Aside0.mk A40
 clear A40
 have HC5 := Aside0.mk H
 clear H
 go_enter Try.func70, Try.ntmps70
 go_upto_region 2 with (first | ((with_reducible refine gate_callee (f := 69) rfl ?_); refine gL_ (some 10) Try.func69 #[.int .i64 a2] ?_; (with_reducible refine (pack_bits.calls a2 t123 _ A4.out).mono ?_); rintro e w' ⟨rfl, ⟨nd, rfl⟩⟩; refine ⟨_, rfl, ?_⟩))
 (try simp only [Act.put, sA_, sB_, sC_])
 go_cut [] (fun wc => ∃ (kq : Nat), Aside0 (pack_put.j0 kq l0 a1 t123 = some r) ∧ Aside0 (kq ≤ k) ∧ Aside0 (Kd.R (Kd.int .u8) 5 wc w0.heap.size (fun k_ => (P0_ k_ ∨ w.heap.size ≤ k_)) u9000_ l0) ∧ Aside0 (Kept w wc (fun k_ => P0_ k_)) ∧ Aside0 (Below w0.heap.size w0 wc))
 case first =>
  have H := HC5.out
  clear HC5
  by_cases c6 : t123 = 64
  ·rw [if_pos c6] at H
   obtain ⟨c6b0, c6b1⟩ := eqT_ c6
   clear c6
   (first | rw [c6b0] | (simp only [i64_w, i32_w]; rw [c6b0]) | rw [c6b1] | skip)
   replace H := Option.bind_eq_some_iff.mp H
   obtain ⟨_, A70, H⟩ := H
   replace H : (pack_put.j0 k l0 a1 t123) = some r := H
   have A7 := Aside0.mk A70
   clear A70
   have H' := Aside0.mk H
   clear H
   go_wp2_with (first | ((with_reducible refine gate_callee (f := 81) rfl ?_); refine gL_ (some 23) Try.func81 #[.bool true] ?_; (with_reducible refine (pack_must.calls true  _ A7.out).mono ?_); rintro e w' ⟨rfl, ⟨nd, rfl⟩⟩; refine ⟨_, rfl, ?_⟩))
   go_meet
   case rel => exact ⟨_, H', ⟨by first | omega | exact Nat.le_refl _⟩, ⟨mvR_ HO0.out⟩, ⟨by repeat (first | (with_reducible first | exact HK.out | apply Kept.alloc | apply Kept.drewN | apply Kept.drew) | exact HK.out)⟩, ⟨bq0_ HB.out⟩⟩
  ·rw [if_neg c6] at H
   have c6b0 : (t123 == 64) = false := beq_eq_false_iff_ne.mpr c6
   have c6b1 : (t123 != 64) = true := bne_iff_ne.mpr c6
   (first | rw [c6b0] | (simp only [i64_w, i32_w]; rw [c6b0]) | rw [c6b1] | skip)
   by_cases c8 : a1 ≥ 0
   ·rw [if_pos c8] at H
    have c8b0 : decide (0 ≤ a1) = true := decide_eq_true c8
    clear c8
    by_cases c9 : 0 ≤ t123
    ·rw [if_pos c9] at H
     have c9b0 := eq_true c9
     have c9b1 : decide (0 ≤ t123) = true := decide_eq_true c9
     clear c9
     obtain ⟨ji10, hji10⟩ : ∃ j_ : Int, (shl .i64 1 t123) = j_ := ⟨_, rfl⟩
     replace H : ((pack_must.f (decide (a1 < (ji10)))).bind fun _ => (pack_put.j0 k l0 a1 t123)) = some r := by first | (rw [hji10] at H; exact H) | (simp only [hji10] at H ⊢; exact H)
     have hji10_ : (IntKind.i64.wrap (1 * 2 ^ min t123.toNat 64)) = ji10 := hji10
     have hji10z : t123 ≤ 64 → (IntKind.i64.wrap (1 * 2 ^ t123.toNat)) = ji10 := shl_small hji10
     have hji10u : (IntKind.i64.wrap (2 ^ min t123.toNat 64)) = ji10 := by have h_ := hji10_; rw [Int.one_mul] at h_; exact h_
     have hji10v : t123 ≤ 64 → (IntKind.i64.wrap (2 ^ t123.toNat)) = ji10 := fun hle_ => by have h_ := hji10z hle_; rw [Int.one_mul] at h_; exact h_
     have hji10y : (wrap64 (1 * 2 ^ min t123.toNat 64)) = ji10 := (i64_w _).symm.trans hji10_
     have hji10x : t123 ≤ 64 → (wrap64 (1 * 2 ^ t123.toNat)) = ji10 := fun h_ => (i64_w _).symm.trans (hji10z h_)
     replace H := Option.bind_eq_some_iff.mp H
     obtain ⟨_, A110, H⟩ := H
     replace H : (pack_put.j0 k l0 a1 t123) = some r := H
     have A11 := Aside0.mk A110
     clear A110
     have H' := Aside0.mk H
     clear H
     go_wp2_with (first | ((with_reducible refine gate_callee (f := 81) rfl ?_); refine goesL_ (some 23) rfl rfl Try.func81 (by kernel_rfl) rfl #[.bool (decide (a1 < (ji10)))] rfl (by (try simp only [List.map_toArray, List.map_cons, List.map_nil]); first | done | (simp only [hji10]; rfl) | rfl | (simp only [List.length_drop, List.length_take]; rfl)) ?_; (with_reducible refine (pack_must.calls (decide (a1 < (ji10)))  _ A11.out).mono ?_); rintro e w' ⟨rfl, ⟨nd, rfl⟩⟩; refine ⟨_, rfl, ?_⟩))
     go_meet
     case rel => exact ⟨_, H', ⟨by first | omega | exact Nat.le_refl _⟩, ⟨mvR_ HO0.out⟩, ⟨by repeat (first | (with_reducible first | exact HK.out | apply Kept.alloc | apply Kept.drewN | apply Kept.drew) | exact HK.out)⟩, ⟨bq0_ HB.out⟩⟩
    ·rw [if_neg c9] at H
     exact absurd H (by simp)
   ·rw [if_neg c8] at H
    have c8b0 : decide (0 ≤ a1) = false := decide_eq_false c8
    clear c8
    replace H := Option.bind_eq_some_iff.mp H
    obtain ⟨_, A120, H⟩ := H
    replace H : (pack_put.j0 k l0 a1 t123) = some r := H
    have A12 := Aside0.mk A120
    clear A120
    have H' := Aside0.mk H
    clear H
    go_wp2_with (first | ((with_reducible refine gate_callee (f := 81) rfl ?_); refine gL_ (some 23) Try.func81 #[.bool false] ?_; (with_reducible refine (pack_must.calls false  _ A12.out).mono ?_); rintro e w' ⟨rfl, ⟨nd, rfl⟩⟩; refine ⟨_, rfl, ?_⟩))
    go_meet
    case rel => exact ⟨_, H', ⟨by first | omega | exact Nat.le_refl _⟩, ⟨mvR_ HO0.out⟩, ⟨by repeat (first | (with_reducible first | exact HK.out | apply Kept.alloc | apply Kept.drewN | apply Kept.drew) | exact HK.out)⟩, ⟨bq0_ HB.out⟩⟩
 case rest =>
  clear HC5
  try clear p2
  try clear c6
  try clear c6b0
  try clear c6b1
  try clear p6
  try clear c7
  try clear c8
  try clear c8b0
  try clear c9
  try clear c9b0
  try clear c9b1
  obtain ⟨kq, HA, HJ4, HO_0, HK, HB⟩ := hcut
  cases kq with
  | zero => exact absurd HA.out (by simp [pack_put.j0])
  | succ kj4 =>
   have H := HA.out
   clear HA
   simp only [pack_put.j0] at H
   have H' := Aside0.mk H
   clear H
   go_wp2
   go_loopg [0, 8] kj4 (fun kq v0 v8 w' => ∃ (x0_2 : List Int) (x8_2 : Int), v8 = .int .i64 x8_2 ∧ Aside0 (pack_put.l0 kq x0_2 a1 x8_2 = some r) ∧ Aside0 (kq ≤ kj4) ∧ Aside0 (Kd.R (Kd.int .u8) 5 w' w0.heap.size (fun k_ => (P0_ k_ ∨ w.heap.size ≤ k_)) v0 x0_2) ∧ Aside0 (Kept w w' (fun k_ => P0_ k_)) ∧ Aside0 (Below w0.heap.size w0 w'))
   case atStart => exact ⟨(l0), (wrap64 (t123 - 8)), (by first | rfl | (simp; done) | (simp [*]; done)), H', ⟨Nat.le_refl _⟩, ⟨mvR_ HO_0.out⟩, ⟨by repeat (first | (with_reducible first | exact HK.out | apply Kept.alloc | apply Kept.drewN | apply Kept.drew) | exact HK.out)⟩, ⟨bq0_ HB.out⟩⟩
   case round =>
    clear H'
    try clear p2
    try clear c6
    try clear c6b0
    try clear c6b1
    try clear p6
    try clear c7
    try clear c8
    try clear c8b0
    try clear c9
    try clear c9b0
    try clear c9b1
    try clear p2
    try clear p6
    obtain ⟨x0_2, x8_2, rfl, HA, HK2, HO_0, HK, HB⟩ := hrel
    cases gk with
    | zero => exact absurd HA.out (by simp [pack_put.l0])
    | succ k2 =>
     have H := HA.out
     clear HA
     simp only [pack_put.l0] at H
     by_cases c13 : x8_2 ≥ 0
     ·rw [if_pos c13] at H
      have c13b0 : decide (0 ≤ x8_2) = true := decide_eq_true c13
      clear c13
      by_cases c14 : 0 ≤ x8_2
      ·rw [if_pos c14] at H
       have c14b0 := eq_true c14
       have c14b1 : decide (0 ≤ x8_2) = true := decide_eq_true c14
       clear c14
       obtain ⟨ji15, hji15⟩ : ∃ j_ : Int, (shr .i64 a1 x8_2) = j_ := ⟨_, rfl⟩
       replace H : (if x0_2.length < 140737488355328 then (pack_put.l0 k2 (x0_2 ++ [(ji15) % 256]) a1 (wrap64 (x8_2 - 8))) else (none)) = some r := by first | (rw [hji15] at H; exact H) | (simp only [hji15] at H ⊢; exact H)
       have hji15_ : (a1 / 2 ^ min x8_2.toNat 64) = ji15 := hji15
       have hji15z : x8_2 ≤ 64 → (a1 / 2 ^ x8_2.toNat) = ji15 := shr_small hji15
       by_cases c16 : x0_2.length < 140737488355328
       ·rw [if_pos c16] at H
        have LMc16 := Aside0.mk c16
        clear c16
        obtain ⟨y124, hy124⟩ : ∃ y_ : List Int, y_ = (x0_2 ++ [(ji15) % 256]) := ⟨_, rfl⟩
        replace H : (pack_put.l0 k2 y124 a1 (wrap64 (x8_2 - 8))) = some r := by first | (rw [hy124]; with_reducible exact H) | (have H2_ := (Option.bind_some _ _).symm.trans H; rw [hy124]; with_reducible exact H2_) | (have H2_ := (Option.bind_some _ _).symm.trans H; with_reducible exact H2_) | with_reducible exact H | (rw [hy124]; exact H) | exact H
        have Ny124 := Aside0.mk hy124
        clear hy124
        have H' := Aside0.mk H
        clear H
        go_wp2_with (first | ((with_reducible refine gate_builtin (b := .append) (xs := #[.tmp 30, .tmp 35]) rfl ?_); at_builtin; refine Kd.R_append (Kd.int .u8) (w0 := w0) w0.heap.size rfl (.tmp 30) (.tmp 35) 31 5 (.int .u8 0) 1 rfl Try.underlying31 info5 rfl (by decide) (by omega) u0 x0_2 ((ji15) % 256) [.int .u8 ((ji15) % 256)] (fun k_ => (P0_ k_ ∨ w.heap.size ≤ k_)) (fun _ => False) rfl rfl ?aP (fun _ hk => hk.elim) ?aF ?aO ?aB ?aS ?aL ?_; (case aP => exact rfl); (case aB => exact (bq0_ HB.out)); (case aF => exact (fun k_ hk => (.inr (Nat.le_trans (by first | exact HK.out.1 | exact (show Kept w _ (fun k_ => P0_ k_) from by repeat (first | (with_reducible first | exact HK.out | apply Kept.alloc | apply Kept.drewN | apply Kept.drew) | exact HK.out)).1) hk)))); (case aO => exact (mvR_ HO_0.out)); (case aS => exact (below_size (bq0_ HB.out))); (case aL => have := LMc16.out; omega); intro v125 w17 ho hb hg hat; rw [← Ny124.out] at ho; have HO126 := Aside0.mk (ho); replace HB := Aside0.mk (hb); replace HK := Aside0.mk (Kept.of_grown (S := (fun k_ => P0_ k_)) hg (by repeat (first | (with_reducible first | exact HK.out | apply Kept.alloc | apply Kept.drewN | apply Kept.drew) | exact HK.out)) (fun k_ e_ => (HO_0.out.1 k_ e_))); clear HO_0 ho hb hg hat))
        go_roundg k2
        case measure => have := HJ4.out; have := HK2.out; omega
        case rel => exact ⟨(y124), (wrap64 (x8_2 - 8)), (by first | rfl | (simp; done) | (simp [*]; done)), H', ⟨by have := HJ4.out; have := HK2.out; omega⟩, ⟨mvR_ HO126.out⟩, ⟨by repeat (first | (with_reducible first | exact HK.out | apply Kept.alloc | apply Kept.drewN | apply Kept.drew) | exact HK.out)⟩, ⟨bq0_ HB.out⟩⟩
       ·rw [if_neg c16] at H
        exact absurd H (by simp)
      ·rw [if_neg c14] at H
       exact absurd H (by simp)
     ·rw [if_neg c13] at H
      have c13b0 : decide (0 ≤ x8_2) = false := decide_eq_false c13
      clear c13
      obtain rfl := Option.some.inj H
      go_wp2
      go_ret
      exact ⟨_, by first | rfl | (simp <;> rfl) | (simp [*] <;> rfl), mvR_ HO_0.out, bq0_ HB.out, by repeat (first | (with_reducible first | exact HK.out | apply Kept.alloc | apply Kept.drewN | apply Kept.drew) | exact HK.out)⟩
def pkMay (n size : Int) : Bool := (size == 1 && decide (0 ≤ n) && decide (n ≤ 255)) || (size == 2 && decide (0 ≤ n) && decide (n ≤ 65535)) || size == 8
def pkBytes : Nat → Int → List Int
  | 0, _ => []
  | m + 1, n => (n / 2 ^ (8 * m)) % 256 :: pkBytes m n
theorem pkMay_cases {n size : Int} (h : pkMay n size = true) : (size = 1 ∧ 0 ≤ n ∧ n ≤ 255) ∨ (size = 2 ∧ 0 ≤ n ∧ n ≤ 65535) ∨ size = 8 := by
  simp [pkMay] at h
  omega
theorem pkMay_not {n size : Int} (h : pkMay n size = false) : okSize size = false ∨ (size = 1 ∧ n < 0) ∨ (size = 1 ∧ 255 < n) ∨ (size = 2 ∧ n < 0) ∨ (size = 2 ∧ 65535 < n) := by
  by_cases h1 : size = 1
  · subst h1; simp [pkMay] at h; omega
  · by_cases h2 : size = 2
    · subst h2; simp [pkMay] at h; omega
    · by_cases h8 : size = 8
      · subst h8; simp [pkMay] at h
      · left; simp [okSize, h1, h2, h8]
theorem pack_put.no (u : Value) (a1 a2 : Int) (h : pkMay a1 a2 = false) (w : World) : Calls Try.prog 70 #[u, .int .i64 a1, .int .i64 a2] w fun e w' => e = .panicked [wrongE] ∧ w = w' := by
  rcases pkMay_not h with hk | ⟨rfl, hn⟩ | ⟨rfl, hn⟩ | ⟨rfl, hn⟩ | ⟨rfl, hn⟩
  · have HK := Aside0.mk hk
    clear hk h
    go_enter Try.func70, Try.ntmps70
    go_wp2_with (first | (go_at_call 69; (with_reducible refine (pack_bits.no a2 HK.out _).mono ?_); rintro e w' ⟨rfl, rfl⟩))
    exact ⟨rfl, rfl, rfl⟩
  all_goals
    have hb1 : okSize 1 = true := rfl
    have hb2 : okSize 2 = true := rfl
    have HK1 := Aside0.mk hb1
    have HK2 := Aside0.mk hb2
    clear h hb1 hb2
  · have h1 : decide (0 ≤ a1) = false := decide_eq_false (by omega)
    clear hn
    go_enter Try.func70, Try.ntmps70
    go_wp2_with (first | (go_at_call 69; (with_reducible refine (pack_bits.ok 1 HK1.out _).mono ?_); rintro e w' ⟨rfl, rfl⟩) | (go_at_call 81; (with_reducible refine (pack_must.no _).mono ?_); rintro e w' ⟨rfl, rfl⟩))
    exact ⟨rfl, rfl, rfl⟩
  · have h1 : decide (0 ≤ a1) = true := decide_eq_true (by omega)
    have h2 : decide (a1 < 256) = false := decide_eq_false (by omega)
    clear hn
    go_enter Try.func70, Try.ntmps70
    go_wp2_with (first | (go_at_call 69; (with_reducible refine (pack_bits.ok 1 HK1.out _).mono ?_); rintro e w' ⟨rfl, rfl⟩) | (go_at_call 81; (with_reducible refine (pack_must.no _).mono ?_); rintro e w' ⟨rfl, rfl⟩))
    exact ⟨rfl, rfl, rfl⟩
  · have h1 : decide (0 ≤ a1) = false := decide_eq_false (by omega)
    clear hn
    go_enter Try.func70, Try.ntmps70
    go_wp2_with (first | (go_at_call 69; (with_reducible refine (pack_bits.ok 2 HK2.out _).mono ?_); rintro e w' ⟨rfl, rfl⟩) | (go_at_call 81; (with_reducible refine (pack_must.no _).mono ?_); rintro e w' ⟨rfl, rfl⟩))
    exact ⟨rfl, rfl, rfl⟩
  · have h1 : decide (0 ≤ a1) = true := decide_eq_true (by omega)
    have h2 : decide (a1 < 65536) = false := decide_eq_false (by omega)
    clear hn
    go_enter Try.func70, Try.ntmps70
    go_wp2_with (first | (go_at_call 69; (with_reducible refine (pack_bits.ok 2 HK2.out _).mono ?_); rintro e w' ⟨rfl, rfl⟩) | (go_at_call 81; (with_reducible refine (pack_must.no _).mono ?_); rintro e w' ⟨rfl, rfl⟩))
    exact ⟨rfl, rfl, rfl⟩
theorem wof {x : Int} (h : -9223372036854775808 ≤ x) (h' : x ≤ 9223372036854775807) : wrap64 x = x := by unfold wrap64; omega
theorem put_l0 (a1 : Int) (m : Nat) : ∀ (k : Nat) (l : List Int), l.length + m < 140737488355328 → m ≤ 8 → m < k → pack_put.l0 k l a1 (8 * (m : Int) - 8) = some (l ++ pkBytes m a1) := by
  induction m with
  | zero =>
    intro k l hl hm hk
    obtain ⟨k, rfl⟩ : ∃ q, k = q + 1 := ⟨k - 1, by omega⟩
    simp [pack_put.l0, pkBytes]
  | succ m ih =>
    intro k l hl hm hk
    obtain ⟨k, rfl⟩ : ∃ q, k = q + 1 := ⟨k - 1, by omega⟩
    have e0 : 8 * ((m + 1 : Nat) : Int) - 8 = 8 * (m : Int) := by omega
    simp only [pack_put.l0]
    rw [e0, if_pos (by omega), if_pos (by omega), if_pos (by omega)]
    have es : shr .i64 a1 (8 * (m : Int)) = a1 / 2 ^ (8 * m) := by
      unfold shr
      have : min (8 * (m : Int)).toNat (IntKind.i64).bits = 8 * m := by
        have : (IntKind.i64).bits = 64 := rfl
        omega
      rw [this]
    have hgo := ih k (l ++ [(shr .i64 a1 (8 * (m : Int))) % 256]) (by simp; omega) (by omega) (by omega)
    have hw : wrap64 (8 * (m : Int) - 8) = 8 * (m : Int) - 8 := wof (by omega) (by omega)
    rw [hw, hgo, es]
    simp [pkBytes]
theorem put_f (l : List Int) (n size : Int) (h : pkMay n size = true) (hl : l.length + 8 < 140737488355328) (k : Nat) (hk : 12 ≤ k) : pack_put.f k l n size = some (l ++ pkBytes size.toNat n) := by
  obtain ⟨k, rfl⟩ : ∃ q, k = q + 1 := ⟨k - 1, by omega⟩
  unfold pack_put.f
  have w1 : wrap64 0 = 0 := wof (by omega) (by omega)
  have w8 : wrap64 8 = 8 := wof (by omega) (by omega)
  have w56 : wrap64 56 = 56 := wof (by omega) (by omega)
  have s8 : shl .i64 1 8 = 256 := by decide +kernel
  have s16 : shl .i64 1 16 = 65536 := by decide +kernel
  rcases pkMay_cases h with ⟨rfl, h0, h1⟩ | ⟨rfl, h0, h1⟩ | rfl
  · have := put_l0 n 1 k l (by omega) (by omega) (by omega)
    have h2 : n < 256 := by omega
    simp at this
    simp [pack_bits.f, okSize, pack_must.f, s8, h0, h2, pack_put.j0, w1, this]
  · have := put_l0 n 2 k l (by omega) (by omega) (by omega)
    have h2 : n < 65536 := by omega
    simp at this
    simp [pack_bits.f, okSize, pack_must.f, s16, h0, h2, pack_put.j0, w8, this]
  · have := put_l0 n 8 k l (by omega) (by omega) (by omega)
    simp at this
    simp [pack_bits.f, okSize, pack_must.f, pack_put.j0, w56, this]
theorem tc_a (w : World) (x y : Value) (t u : TypeId) : ((w.alloc (.cells #[x] t)).alloc (.cells #[y] u)).cell? ⟨w.heap.size, 0, none⟩ = some x := by
  rw [World.cell?_alloc_past _ _ _ (by simp), World.cell?_alloc_at _ _ _ _ rfl]; rfl
theorem tc_b (w : World) (x y : Value) (t u : TypeId) : ((w.alloc (.cells #[x] t)).alloc (.cells #[y] u)).cell? ⟨w.heap.size + 1, 0, none⟩ = some y := by
  rw [World.cell?_alloc_at _ _ _ _ (by simp)]; rfl
theorem tf_a (w : World) (x y : Value) (t u : TypeId) : ((w.alloc (.cells #[x] t)).alloc (.cells #[y] u)).frozen? ⟨w.heap.size, 0, none⟩ = false := by
  rw [World.frozen?_alloc_past _ _ _ (by simp), World.frozen?_alloc_at _ _ _ _ rfl]
theorem tf_b (w : World) (x y : Value) (t u : TypeId) : ((w.alloc (.cells #[x] t)).alloc (.cells #[y] u)).frozen? ⟨w.heap.size + 1, 0, none⟩ = false := by
  rw [World.frozen?_alloc_at _ _ _ _ (by simp)]
def pkPut (l0 : List Int) (a1 a2 : Int) : List Int × Int := if pkMay a1 a2 = true then (l0 ++ pkBytes a2.toNat a1, 0) else ([], 40)
def pkAll (size : Int) : List Int → List Int
 | [] => []
 | n :: l => pkBytes size.toNat n ++ pkAll size l
def pkListOk (l1 : List Int) (a2 : Int) : Bool := okSize a2 && decide (l1.length ≤ 255) && l1.all fun n => pkMay n a2
def pkList (l0 l1 : List Int) (a2 : Int) : List Int × Int := if pkListOk l1 a2 = true then (l0 ++ ((l1.length : Int) :: pkAll a2 l1), 0) else ([], 40)
def pack_List.f (l0 l1 : List Int) (a2 : Int) : Option (List Int × Int) := if l0.length + 8 * l1.length + 20 < 140737488355328 then some (pkList l0 l1 a2) else none
theorem pkBytes_length (m : Nat) (n : Int) : (pkBytes m n).length = m := by
 induction m with
 | zero => rfl
 | succ m ih => simp [pkBytes, ih]
theorem pkAll_snoc (size : Int) (l : List Int) (n : Int) : pkAll size (l ++ [n]) = pkAll size l ++ pkBytes size.toNat n := by
 induction l with
 | nil => simp [pkAll]
 | cons a l ih => simp [pkAll, ih]
theorem pkAll_length (size : Int) (l : List Int) : (pkAll size l).length = size.toNat * l.length := by
 induction l with
 | nil => simp [pkAll]
 | cons a l ih => simp [pkAll, ih, pkBytes_length, Nat.mul_add]; omega
theorem okSize_cases {n : Int} (h : okSize n = true) : n = 1 ∨ n = 2 ∨ n = 8 := by simpa [okSize, or_assoc] using h
theorem list_nil_ok (p : Addr) (x : Value) (w : World) (hc : w.cell? p = some x) (hf : w.frozen? p = false) :
  Calls Try.prog 68 #[.pointer (some p)] w fun e w' => e = .returned (.tuple #[]) ∧ w.setCell p (.slice none 0 0) = w' := by
 go_enter Try.func68, Try.ntmps68
 go_wp2
 go_end0
 exact ⟨rfl, rfl⟩
theorem list_two (tm : Array Value) (W : World) (a b : Addr) (x y : Value) (t6 : tm[6]?.getD undef = .pointer (some a)) (t7 : tm[7]?.getD undef = .pointer (some b)) (k6 : W.cell? a = some x) (k7 : W.cell? b = some y) :
  (results Try.f39 tm).run Try.prog W = .ok (.tuple #[x, y]) W := by
 simp [results, Try.results39, go_sem, t6, t7, k6, k7]
theorem list_tail_no (w w1 : World) (x : Value) (tm : Array Value) (c6 : w1.cell? ⟨w.heap.size, 0, none⟩ = some x) (f6 : w1.frozen? ⟨w.heap.size, 0, none⟩ = false)
  (c7 : w1.cell? ⟨w.heap.size + 1, 0, none⟩ = some (.int .i64 0)) (f7 : w1.frozen? ⟨w.heap.size + 1, 0, none⟩ = false) (z1 : w.heap.size + 2 ≤ w1.heap.size) (hb : Below w.heap.size w w1)
  (t6 : tm[6]?.getD undef = .pointer (some ⟨w.heap.size, 0, none⟩)) (t7 : tm[7]?.getD undef = .pointer (some ⟨w.heap.size + 1, 0, none⟩)) :
  Leaves Try.prog Try.f39 tm (fun e w' => ∃ v0_ : Value, e = .returned (.tuple #[v0_, .int .i64 40]) ∧ Kd.R (Kd.int .u8) 5 w' w.heap.size (fun _ => True) v0_ [] ∧ Below w.heap.size w w')
   [{ target := Target.fn (Fn.func 67) #[], args := #[.pointer (some ⟨w.heap.size + 1, 0, none⟩), .func (Fn.func 68) #[] #[.pointer (some ⟨w.heap.size, 0, none⟩)]] }] (.panicking [wrongE]) w1 := by
 have hlt : w.heap.size < w1.heap.size := by omega
 have hlt2 : w.heap.size + 1 < w1.heap.size := by omega
 refine leaves_cons (f := 67) (args := #[.pointer (some ⟨w.heap.size + 1, 0, none⟩), .func (Fn.func 68) #[] #[.pointer (some ⟨w.heap.size, 0, none⟩)]]) (by simp) (by simp [go_sem]) ?_
 refine (pack_told.wrong ⟨w.heap.size + 1, 0, none⟩ 68 #[.pointer (some ⟨w.heap.size, 0, none⟩)] (.int .i64 0) [] w1 (fun w2 => (w1.alloc (.cells #[] 110)).setCell ⟨w.heap.size, 0, none⟩ (.slice none 0 0) = w2) (fun W => by simp [go_sem]) ?_).mono ?_
 ·refine (list_nil_ok ⟨w.heap.size, 0, none⟩ x _ (by rw [World.cell?_alloc_lt _ _ _ hlt]; exact c6) (by rw [World.frozen?_alloc_old _ _ _ (Nat.ne_of_lt hlt)]; exact f6)).mono ?_
  rintro e w' ⟨rfl, rfl⟩
  refine ⟨rfl, rfl, ?_, ?_⟩
  ·rw [World.cell?_setCell_other _ _ _ _ (by simp), World.cell?_alloc_lt _ _ _ hlt2]; exact c7
  ·rw [World.frozen?_setCell, World.frozen?_alloc_old _ _ _ (Nat.ne_of_lt hlt2)]; exact f7
 ·rintro e u' w' ⟨rfl, rfl, w2, rfl, rfl⟩
  have hs : settle (.panicking [wrongR]) = .returning := rfl
  simp only [hs]
  refine ⟨.tuple #[.slice none 0 0, .int .i64 40], ?_, .slice none 0 0, rfl, Kd.R_nil _ _ _ _ _, ?_⟩
  ·refine list_two _ _ _ _ _ _ t6 t7 ?_ ?_
   ·rw [World.cell?_setCell_other _ _ _ _ (by simp)]
    exact World.cell?_setCell_same _ _ _ (u := x) (by rw [World.cell?_alloc_lt _ _ _ hlt]; exact c6)
   ·exact World.cell?_setCell_same _ _ _ (u := .int .i64 0) (by rw [World.cell?_setCell_other _ _ _ _ (by simp), World.cell?_alloc_lt _ _ _ hlt2]; exact c7)
  ·exact ((hb.alloc (by omega) _).setCell (p := ⟨w.heap.size, 0, none⟩) (Nat.le_refl _) _).setCell (p := ⟨w.heap.size + 1, 0, none⟩) (by simp) _
def ListInv (w : World) (A : Option Addr) (c : Nat) (acc : List Int) (W : World) : Prop :=
 W.cell? ⟨w.heap.size, 0, none⟩ = some (.slice A acc.length c) ∧ W.frozen? ⟨w.heap.size, 0, none⟩ = false ∧ W.cell? ⟨w.heap.size + 1, 0, none⟩ = some (.int .i64 0) ∧ W.frozen? ⟨w.heap.size + 1, 0, none⟩ = false ∧
 Kd.R (Kd.int .u8) 5 W w.heap.size (fun k => w.heap.size + 2 ≤ k) (.slice A acc.length c) acc ∧ Below w.heap.size w W ∧ w.heap.size + 2 ≤ W.heap.size
theorem ListInv.next {w : World} {A A2 : Option Addr} {c c2 : Nat} {acc acc2 : List Int} {W W2 : World} (h : ListInv w A c acc W) (hk : Kept W W2 (fun k => w.heap.size + 2 ≤ k)) (hb : Below w.heap.size w W2)
  (hR : Kd.R (Kd.int .u8) 5 W2 w.heap.size (fun k => w.heap.size + 2 ≤ k ∨ W.heap.size ≤ k) (.slice A2 acc2.length c2) acc2) : ListInv w A2 c2 acc2 (W2.setCell ⟨w.heap.size, 0, none⟩ (.slice A2 acc2.length c2)) := by
 obtain ⟨h1, h2, h3, h4, h5, h6, h7⟩ := h
 have b0 : W2.heap[w.heap.size]? = W.heap[w.heap.size]? := hk.2 _ (by omega) (by omega)
 have b1 : W2.heap[w.heap.size + 1]? = W.heap[w.heap.size + 1]? := hk.2 _ (by omega) (by omega)
 have q0 : W2.cell? ⟨w.heap.size, 0, none⟩ = W.cell? ⟨w.heap.size, 0, none⟩ := World.cell?_of_block b0
 refine ⟨World.cell?_setCell_same _ _ _ (q0.trans h1), ?_, ?_, ?_, ?_, hb.setCell (p := ⟨w.heap.size, 0, none⟩) (Nat.le_refl _) _, ?_⟩
 ·rw [World.frozen?_setCell]; exact (World.frozen?_of_block b0).trans h2
 ·rw [World.cell?_setCell_other _ _ _ _ (by simp)]; exact (World.cell?_of_block b1).trans h3
 ·rw [World.frozen?_setCell]; exact (World.frozen?_of_block b1).trans h4
 ·exact Kd.R_far (Kd.R_mono hR (fun k hk => by rcases hk with hk | hk <;> omega)) (fun k hk => by simp; omega) _
 ·have := hk.1; simp; omega
theorem all_take {l : List Int} {p : Int → Bool} {i : Nat} (h : i < l.length) : (l.take (i + 1)).all p = ((l.take i).all p && p l[i]) := by
 rw [List.take_add_one, List.getElem?_eq_getElem h, List.all_append, Option.toList_some, List.all_cons, List.all_nil, Bool.and_true]
set_option maxHeartbeats 8000000 in
set_option maxRecDepth 100000 in
theorem pack_List.calls (A0 : Option Addr) (c0 : Nat) (l0 : List Int) (A1 : Option Addr) (c1 : Nat) (l1 : List Int) (a2 : Int) (r1 : List Int) (r2 : Int) (w : World) (hr0 : Kd.C (Kd.int .u8) w A0 l0.length l0) (hc0 : l0.length ≤ c0)
  (hr1 : Kd.C (Kd.int .i64) w A1 l1.length l1) (hc1 : l1.length ≤ c1) (h : pack_List.f l0 l1 a2 = some (r1, r2)) :
  Calls Try.prog 39 #[.slice A0 l0.length c0, .slice A1 l1.length c1, .int .i64 a2] w fun e w' => ∃ v0_ : Value, e = .returned (.tuple #[v0_, .int .i64 r2]) ∧ Kd.R (Kd.int .u8) 5 w' w.heap.size (fun _ => True) v0_ r1 ∧ Below w.heap.size w w' := by
 unfold pack_List.f at h
 by_cases hl : l0.length + 8 * l1.length + 20 < 140737488355328
 ·rw [if_pos hl] at h
  have h := Option.some.inj h
  have HL := Aside0.mk hl
  have HR0 := Aside0.mk hr0
  have HC0 := Aside0.mk hc0
  have HR1 := Aside0.mk hr1
  have HC1 := Aside0.mk hc1
  have hcf : slices_Clone_byte_byte.f l0 = some l0 := by unfold slices_Clone_byte_byte.f; rw [if_pos (by omega)]
  have HCF := Aside0.mk hcf
  clear hr0 hc0 hr1 hc1 hcf hl
  have hmf : ∀ (fn : Fn) (first cap : Array Value) (W : World), (Instr.makeFunc fn first cap).run Try.prog W = .ok (.func fn first cap) W := fun _ _ _ _ => rfl
  by_cases hk : okSize a2 = true
  ·have HK := Aside0.mk hk
   clear hk
   by_cases h255 : l1.length ≤ 255
   ·have H255 := Aside0.mk h255
    have hmay : pkMay (l1.length : Int) 1 = true := by simp [pkMay]; omega
    have HP := Aside0.mk (put_f l0 (l1.length : Int) 1 hmay (by have := HL.out; omega) 12 (Nat.le_refl _))
    clear h255 hmay
    have HH := Aside0.mk h
    clear h
    obtain ⟨z, hz⟩ : ∃ z : List Int, z = l0 ++ [(l1.length : Int)] := ⟨_, rfl⟩
    have hz2 : l0 ++ pkBytes (1 : Int).toNat (l1.length : Int) = z := by rw [hz]; have := H255.out; simp [pkBytes]; omega
    rw [hz2] at HP
    have HZ := Aside0.mk hz
    have HZL := Aside0.mk (show z.length = l0.length + 1 by rw [hz]; simp)
    clear hz hz2
    go_enter_defers Try.func39, Try.ntmps39
    go_wp2_with (first | (go_at_call 69; (with_reducible refine (pack_bits.ok a2 HK.out _).mono ?_); rintro e w' ⟨rfl, rfl⟩) | (go_at_call 25; (with_reducible refine (slices_Clone_byte_byte.calls _ _ l0 l0 _ ?s1 HC0.out HCF.out).mono ?_); (case s1 => repeat (first | exact HR0.out | (with_reducible refine Kd.C_alloc ?_ _))); rintro e w1 ⟨v1, rfl, hR1, hb1⟩; have HQ1 := Aside0.mk hR1; have HB1 := Aside0.mk hb1; clear hR1 hb1) | (go_at_call 70; (with_reducible refine (pack_put.calls 12 (fun _ => True) v1 l0 (l1.length : Int) 1 z _ _ HB1.out HQ1.out HP.out).mono ?_); rintro e w2 ⟨v2, rfl, hR2, hb2, hk2⟩; clear hk2; have c6 : w2.cell? ⟨w.heap.size, 0, none⟩ = some (.slice none 0 0) := (by rw [hb2.cell (by simp; omega)]; exact tc_a _ _ _ _ _); have f6 : w2.frozen? ⟨w.heap.size, 0, none⟩ = false := (by rw [hb2.frozen (by simp; omega)]; exact tf_a _ _ _ _ _); have c7 : w2.cell? ⟨w.heap.size + 1, 0, none⟩ = some (.int .i64 0) := (by rw [hb2.cell (by simp)]; exact tc_b _ _ _ _ _); have f7 : w2.frozen? ⟨w.heap.size + 1, 0, none⟩ = false := (by rw [hb2.frozen (by simp)]; exact tf_b _ _ _ _ _); obtain ⟨Ao2, co2, eo2⟩ := Kd.R_slice hR2; subst eo2; have HR2 := Aside0.mk hR2; have HB2 := Aside0.mk hb2; clear hR2 hb2))
    generalize hW6 : World.setCell _ _ _ = W6
    have hI : ListInv w Ao2 co2 (z ++ pkAll a2 (l1.take 0)) W6 := by
     have hb : Below w.heap.size w w2 := (below_alloc (below_alloc (Below.refl _ _) _) _).trans (HB2.out.mono (by simp; omega))
     have hz : z ++ pkAll a2 (l1.take 0) = z := by simp [pkAll]
     have hsz := HB2.out.size
     simp only [World.size_alloc] at hsz
     have r1 := Kd.R_bound HR2.out
     rw [hz, ← hW6]
     refine ⟨World.cell?_setCell_same _ _ _ c6, ?_, ?_, ?_, ?_, hb.setCell (p := ⟨w.heap.size, 0, none⟩) (Nat.le_refl _) _, ?_⟩
     ·rw [World.frozen?_setCell]; exact f6
     ·rw [World.cell?_setCell_other _ _ _ _ (by simp)]; exact c7
     ·rw [World.frozen?_setCell]; exact f7
     ·exact Kd.R_far (Kd.R_lower (Kd.R_mono r1 (fun k hk => by have := hk.2.1; simp at this; omega)) (by simp; omega)) (fun k hk => by simp; omega) _
     ·simp; omega
    have HI := Aside0.mk hI
    clear hW6 hI c6 f6 c7 f7
    go_loopg [20] (l1.length + 1) (fun kq v20 w' => ∃ (i : Nat) (A : Option Addr) (c : Nat), v20 = .int .i64 (i : Int) ∧ Aside0 (i ≤ l1.length ∧ l1.length - i < kq ∧ (l1.take i).all (fun n => pkMay n a2) = true) ∧ Aside0 (ListInv w A c (z ++ pkAll a2 (l1.take i)) w'))
    case atStart => exact ⟨0, Ao2, co2, rfl, ⟨by omega, by omega, by simp⟩, HI⟩
    case round =>
     obtain ⟨i, Ai, ci, rfl, HA, HJ⟩ := hrel
     obtain ⟨hi1, hi2, hi3⟩ := HA.out
     obtain ⟨c6, f6, c7, f7, hRi, hBi, hSi⟩ := HJ.out
     have HRi := Aside0.mk hRi
     have HBi := Aside0.mk hBi
     have HSi := Aside0.mk hSi
     by_cases hlt : i < l1.length
     ·have p0 : (0 : Int) ≤ (i : Int) := by omega
      have q0 : (i : Int) < (l1.length : Int) := by omega
      have hC := Kd.C_below HR1.out hBi
      obtain ⟨ad, he, hx⟩ := Kd.at_int hC (i : Int) p0 q0
      cases he
      rw [Int.toNat_natCast] at hx
      have hb0 : decide ((i : Int) < (l1.length : Int)) = true := decide_eq_true q0
      have hb1 : decide (i < l1.length) = true := decide_eq_true hlt
      have hrd : rd l1 (i : Int) = l1[i] := by unfold rd; simp [List.getD_eq_getElem?_getD, hlt]
      rw [hrd] at hx
      obtain ⟨n, hn⟩ : ∃ n, n = l1[i] := ⟨_, rfl⟩
      rw [← hn] at hx
      have p1 := eq_true p0
      have q1 := eq_true q0
      have HLT := Aside0.mk hlt
      have HN := Aside0.mk hn
      obtain ⟨acc, hacc⟩ : ∃ acc, acc = z ++ pkAll a2 (l1.take i) := ⟨_, rfl⟩
      have hal : acc.length ≤ z.length + 8 * l1.length := by
       have := okSize_cases HK.out
       rw [hacc, List.length_append, pkAll_length, List.length_take]
       have hm : a2.toNat * min i l1.length ≤ 8 * l1.length := Nat.mul_le_mul (by omega) (by omega)
       omega
      have HAL := Aside0.mk hal
      rw [← hacc] at c6 HRi HJ
      have HACC := Aside0.mk hacc
      clear p0 q0 hn hrd hC hacc hal hi1 hi2 hi3 hRi hBi hSi
      by_cases hm : pkMay n a2 = true
      ·have hpf := put_f acc n a2 hm (by have := HAL.out; have := HL.out; have := HZL.out; omega) 12 (Nat.le_refl _)
       obtain ⟨acc2, hacc2⟩ : ∃ acc2, acc2 = acc ++ pkBytes a2.toNat n := ⟨_, rfl⟩
       rw [← hacc2] at hpf
       have HPF := Aside0.mk hpf
       have HM := Aside0.mk hm
       have HACC2 := Aside0.mk hacc2
       clear hpf hm hacc2
       go_wp2_with (first | (go_at_call 70; (with_reducible refine (pack_put.calls 12 (fun k => w.heap.size + 2 ≤ k) _ acc n a2 acc2 w _ HBi.out HRi.out HPF.out).mono ?_); rintro e w2 ⟨v2, rfl, hR2, hb2, hk2⟩; have j6 : w2.cell? ⟨w.heap.size, 0, none⟩ = some (.slice Ai acc.length ci) := ((World.cell?_of_block (hk2.2 w.heap.size (by have := HSi.out; omega) (by omega))).trans c6); have y6 : w2.frozen? ⟨w.heap.size, 0, none⟩ = false := ((World.frozen?_of_block (hk2.2 w.heap.size (by have := HSi.out; omega) (by omega))).trans f6); obtain ⟨Ao5, co5, eo5⟩ := Kd.R_slice hR2; subst eo5; have HR5 := Aside0.mk hR2; have HB5 := Aside0.mk hb2; have HK5 := Aside0.mk hk2; clear hR2 hb2 hk2))
       go_roundg (gk - 1)
       case measure => obtain ⟨hi1, hi2, hi3⟩ := HA.out; omega
       case rel =>
        obtain ⟨hi1, hi2, hi3⟩ := HA.out
        have hlt := HLT.out
        have g1 : i + 1 ≤ l1.length := by omega
        have g2 : l1.length - (i + 1) < gk - 1 := by omega
        have g3 : (l1.take (i + 1)).all (fun n => pkMay n a2) = true := by rw [all_take hlt, hi3, ← HN.out, HM.out]; rfl
        have g4 : acc2 = z ++ pkAll a2 (l1.take (i + 1)) := by
         rw [HACC2.out, HACC.out, HN.out, List.take_add_one, List.getElem?_eq_getElem hlt, Option.toList_some, pkAll_snoc, List.append_assoc]
        have hlen : l1.length ≤ 255 := H255.out
        have hw : wrap64 ((i : Int) + 1) = ((i + 1 : Nat) : Int) := wof (by omega) (by omega)
        refine ⟨i + 1, Ao5, co5, by rw [hw], ⟨g1, g2, g3⟩, ?_⟩
        rw [← g4]
        exact ⟨ListInv.next HJ.out HK5.out HB5.out HR5.out⟩
      ·have hm' : pkMay n a2 = false := by simpa using hm
       have HM := Aside0.mk hm'
       have hz : (r1, r2) = ([], 40) := by
        rw [← HH.out]
        have hlt := HLT.out
        have : (l1.all fun n => pkMay n a2) = false := by
         rw [Bool.eq_false_iff]; intro ha
         rw [List.all_eq_true] at ha
         have := ha n (by rw [HN.out]; exact List.getElem_mem hlt)
         rw [hm'] at this; cases this
        simp [pkList, pkListOk, this]
       simp only [Prod.mk.injEq] at hz
       obtain ⟨rfl, rfl⟩ := hz
       clear hm hm' HH
       go_wp2_with (first | (go_at_call 70; (with_reducible refine (pack_put.no _ n a2 HM.out _).mono ?_); rintro e w2 ⟨rfl, rfl⟩))
       simp only [Exit.then, Exit.inBlock, bodyPostD]
       exact list_tail_no w _ _ _ c6 f6 c7 f7 HSi.out HBi.out rfl rfl
     ·have hie : i = l1.length := by omega
      subst hie
      have hb0 : decide ((l1.length : Int) < (l1.length : Int)) = false := decide_eq_false (by omega)
      have hb1 : decide (l1.length < l1.length) = false := decide_eq_false (by omega)
      have hz : (r1, r2) = (z ++ pkAll a2 (l1.take l1.length), 0) := by
       rw [← HH.out]
       rw [List.take_length] at hi3 ⊢
       have := H255.out
       simp [pkList, pkListOk, HK.out, this, hi3, HZ.out]
      simp only [Prod.mk.injEq] at hz
      obtain ⟨hacc, rfl⟩ := hz
      rw [← hacc] at c6 HRi HJ
      clear hi1 hi2 hi3 hRi hBi hSi hacc HH HA h
      go_wp2
      simp only [bodyPostD]
      refine leaves_cons (f := 67) (args := #[.pointer (some ⟨w.heap.size + 1, 0, none⟩), .func (Fn.func 68) #[] #[.pointer (some ⟨w.heap.size, 0, none⟩)]]) (by simp) (by simp [go_sem]) ?_
      refine (pack_told.idle _ _ _).mono ?_
      rintro e u' w' ⟨rfl, rfl, rfl⟩
      have hs : settle .returning = .returning := rfl
      simp only [hs]
      refine ⟨.tuple #[.slice Ai r1.length ci, .int .i64 0], ?_, _, rfl, ?_, ?_⟩
      ·refine list_two _ _ _ _ _ _ rfl rfl ?_ (World.cell?_setCell_same _ _ _ (u := .int .i64 0) (by rw [World.cell?_setCell_other _ _ _ _ (by simp)]; exact c7))
       rw [World.cell?_setCell_other _ _ _ _ (by simp)]
       exact World.cell?_setCell_same _ _ _ c6
      ·exact Kd.R_mono (Kd.R_far (Kd.R_far HRi.out (fun k hk => by simp; omega) _) (fun k hk => by simp; omega) _) (fun _ _ => trivial)
      ·exact (HBi.out.setCell (p := ⟨w.heap.size, 0, none⟩) (Nat.le_refl _) _).setCell (p := ⟨w.heap.size + 1, 0, none⟩) (by simp) _
   ·have hmay : pkMay (l1.length : Int) 1 = false := by simp [pkMay]; omega
    have HP := Aside0.mk hmay
    have hz : (r1, r2) = ([], 40) := by rw [← h]; simp [pkList, pkListOk, h255]
    simp only [Prod.mk.injEq] at hz
    obtain ⟨rfl, rfl⟩ := hz
    clear hmay h255 h
    go_enter_defers Try.func39, Try.ntmps39
    go_wp2_with (first | (go_at_call 69; (with_reducible refine (pack_bits.ok a2 HK.out _).mono ?_); rintro e w' ⟨rfl, rfl⟩) | (go_at_call 25; (with_reducible refine (slices_Clone_byte_byte.calls _ _ l0 l0 _ ?s1 HC0.out HCF.out).mono ?_); (case s1 => repeat (first | exact HR0.out | (with_reducible refine Kd.C_alloc ?_ _))); rintro e w1 ⟨v1, rfl, hR1, hb1⟩; have HQ1 := Aside0.mk hR1; have HB1 := Aside0.mk hb1; clear hR1 hb1) | (go_at_call 70; (with_reducible refine (pack_put.no _ _ 1 HP.out _).mono ?_); rintro e w2 ⟨rfl, rfl⟩))
    have hb1 := HB1.out
    have c6 : w1.cell? ⟨w.heap.size, 0, none⟩ = some (.slice none 0 0) := by rw [hb1.cell (by simp; omega)]; exact tc_a _ _ _ _ _
    have f6 : w1.frozen? ⟨w.heap.size, 0, none⟩ = false := by rw [hb1.frozen (by simp; omega)]; exact tf_a _ _ _ _ _
    have c7 : w1.cell? ⟨w.heap.size + 1, 0, none⟩ = some (.int .i64 0) := by rw [hb1.cell (by simp)]; exact tc_b _ _ _ _ _
    have f7 : w1.frozen? ⟨w.heap.size + 1, 0, none⟩ = false := by rw [hb1.frozen (by simp)]; exact tf_b _ _ _ _ _
    have z1 : w.heap.size + 2 ≤ w1.heap.size := by have := hb1.size; simp at this; omega
    have hb : Below w.heap.size w w1 := (below_alloc (below_alloc (Below.refl _ _) _) _).trans (hb1.mono (by simp; omega))
    simp only [bodyPostD]
    exact list_tail_no w _ _ _ c6 f6 c7 f7 z1 hb rfl rfl
  ·have hk' : okSize a2 = false := by simpa using hk
   have HK := Aside0.mk hk'
   have hz : (r1, r2) = ([], 40) := by rw [← h]; simp [pkList, pkListOk, hk']
   simp only [Prod.mk.injEq] at hz
   obtain ⟨rfl, rfl⟩ := hz
   clear hk hk' h
   go_enter_defers Try.func39, Try.ntmps39
   go_wp2_with (first | (go_at_call 69; (with_reducible refine (pack_bits.no a2 HK.out _).mono ?_); rintro e w' ⟨rfl, rfl⟩))
   simp only [bodyPostD]
   exact list_tail_no w _ _ _ (tc_a _ _ _ _ _) (tf_a _ _ _ _ _) (tc_b _ _ _ _ _) (tf_b _ _ _ _ _) (by simp) (below_alloc (below_alloc (Below.refl _ _) _) _) rfl rfl
 ·rw [if_neg hl] at h; cases h
end Go.Proofs.Ytjcgadfmhfhbgaa.A
