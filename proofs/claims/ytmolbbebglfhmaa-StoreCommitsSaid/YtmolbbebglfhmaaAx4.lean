/- Lean functions that answer as the Go functions do, and the proofs that they do; no conditions. Written by this session's own driver: a scratch copy of the kit's print with the session's additions (wip/xprint). -/
import Derived.Test.YtmolbbebglfhmaaAx0
import Derived.Test.YtmolbbebglfhmaaAx1
import Derived.Test.YtmolbbebglfhmaaAx3
namespace Go.Proofs.Ytmolbbebglfhmaa.A
open Go.RowKit Go.Proofs.YtmolbbebglfhmaaW.PrintWords Go.Proofs.YtmolbbebglfhmaaW.PrintLast Go.Proofs.YtmolbbebglfhmaaW.PrintMore
attribute [local go_sem] max2_int min2_int max_two min_two max_three min_three max_four min_four
set_option linter.unusedVariables false
set_option linter.unusedSimpArgs false
theorem wone_ {x : Nat} (h : x < 9223372036854775807) : wrap64 ((x : Int) + 1) = ((x + 1 : Nat) : Int) := by unfold wrap64; omega
theorem wr64' (x : Int) : IntKind.i64.wrap x = wrap64 x := by
 rw [IntKind.wrap_i64]; unfold wrap64; omega
def isPar (p : Int) : Bool := decide (0 ≤ p) && decide (p < 8)
theorem param_f (p : Int) : store_param.f p = some (isPar p) := by
 unfold store_param.f isPar
 by_cases h : p ≥ 0
 ·rw [if_pos h, decide_eq_true (show 0 ≤ p from h), Bool.true_and]
 ·rw [if_neg h, decide_eq_false (show ¬ 0 ≤ p from h), Bool.false_and]
def nmGo : List S42 → List Int → List Int → Option (List Int × Bool)
 | [], _, acc => some (acc, !(acc.any fun p => !isPar p))
 | v :: r, seen, acc => if isPar v.f0 = true ∧ v.f0 ∉ seen then (if acc.length < 17592186044416 then nmGo r (v.f0 :: seen) (acc ++ [v.f0]) else none) else some ([], false)
def store_named.f (l0 : List Int) (l1 : List S42) : Option (List Int × Bool) := (slices_Clone_int_int.f l0).bind fun a => nmGo l1 [] a
def seenC (seen : List Int) : Array Value := #[.bool (decide ((0 : Int) ∈ seen)), .bool (decide ((1 : Int) ∈ seen)), .bool (decide ((2 : Int) ∈ seen)), .bool (decide ((3 : Int) ∈ seen)), .bool (decide ((4 : Int) ∈ seen)), .bool (decide ((5 : Int) ∈ seen)), .bool (decide ((6 : Int) ∈ seen)), .bool (decide ((7 : Int) ∈ seen))]
theorem seenC_get (seen : List Int) {p : Int} (h : isPar p = true) : (seenC seen)[p.toNat]? = some (.bool (decide (p ∈ seen))) := by
 simp only [isPar, Bool.and_eq_true, decide_eq_true_eq] at h
 have : p = 0 ∨ p = 1 ∨ p = 2 ∨ p = 3 ∨ p = 4 ∨ p = 5 ∨ p = 6 ∨ p = 7 := by omega
 rcases this with rfl | rfl | rfl | rfl | rfl | rfl | rfl | rfl <;> rfl
theorem seenC_put (seen : List Int) {p : Int} (h : isPar p = true) : (seenC seen).setIfInBounds p.toNat (.bool true) = seenC (p :: seen) := by
 simp only [isPar, Bool.and_eq_true, decide_eq_true_eq] at h
 have : p = 0 ∨ p = 1 ∨ p = 2 ∨ p = 3 ∨ p = 4 ∨ p = 5 ∨ p = 6 ∨ p = 7 := by omega
 rcases this with rfl | rfl | rfl | rfl | rfl | rfl | rfl | rfl <;> simp [seenC]
structure NmInv (w0 w : World) (b : Nat) (seen : List Int) (v : Value) (acc : List Int) : Prop where
 bel : Below w0.heap.size w0 w
 ge : w0.heap.size ≤ b
 arr : w.heap[b]? = some (.cells (seenC seen) 79 (0, 0))
 row : Kd.R (Kd.int .i64) 3 w w0.heap.size (fun k => k ≠ b) v acc
theorem NmInv.below {w0 w w' : World} {b : Nat} {seen : List Int} {v : Value} {acc : List Int} (h : NmInv w0 w b seen v acc) (hb : Below w.heap.size w w') : NmInv w0 w' b seen v acc :=
 ⟨below_step h.bel hb, h.ge, blk_below h.arr hb, Kd.R_below h.row hb⟩
set_option maxHeartbeats 8000000 in
set_option maxRecDepth 100000 in
theorem named1 (p : Int) (W : World) : Calls Try.prog 47 #[.int .i64 p] W fun e w' => e = .returned (.bool (!isPar p)) ∧ Below W.heap.size W w' := by
 go_enter Try.func47, Try.ntmps47
 go_wp2_with (go_at_call 37; refine (store_param.calls p _ _ (param_f p)).mono ?_; rintro e w1 ⟨rfl, hd⟩; have HB := Aside0.mk hd.below; clear hd)
 go_ret
 exact ⟨rfl, HB.out⟩
set_option maxHeartbeats 8000000 in
set_option maxRecDepth 100000 in
theorem store_named.calls (A0 : Option Addr) (c0 : Nat) (l0 : List Int) (A1 : Option Addr) (c1 : Nat) (l1 : List S42) (r1 : List Int) (r2 : Bool) (w : World) (hr0 : Kd.C (Kd.int .i64) w A0 l0.length l0) (hc0 : l0.length ≤ c0) (hr1 : Kd.C k42 w A1 l1.length l1) (hc1 : l1.length ≤ c1) (h : store_named.f l0 l1 = some (r1, r2)) :
  Calls Try.prog 31 #[.slice A0 l0.length c0, .slice A1 l1.length c1] w fun e w' => ∃ v0_ : Value, e = .returned (.tuple #[v0_, .bool r2]) ∧ Kd.R (Kd.int .i64) 3 w' w.heap.size (fun _ => True) v0_ r1 ∧ Below w.heap.size w w' := by
 have hu42 := Try.underlying42
 have hu79 := Try.underlying79
 have HR0 := Aside0.mk hr0
 have HC0 := Aside0.mk hc0
 have HR1 := Aside0.mk hr1
 have HC1 := Aside0.mk hc1
 have hbig := hr1.2.1
 have HBIG := Aside0.mk hbig
 clear hr0 hc0 hr1 hc1 hbig
 unfold store_named.f at h
 obtain ⟨a, ha, h⟩ := Option.bind_eq_some_iff.mp h
 have HA := Aside0.mk ha
 have H := Aside0.mk h
 clear ha h
 go_enter Try.func31, Try.ntmps31
 go_upto_region 3 with (go_at_call 39; refine (slices_Clone_int_int.calls A0 c0 l0 a _ HR0.out HC0.out HA.out).mono ?_; rintro e w1 ⟨v4, rfl, hR, hB⟩; have HR4 := Aside0.mk hR; have HB1 := Aside0.mk hB; clear hR hB)
 obtain ⟨b, hb⟩ : ∃ b, b = w1.heap.size := ⟨_, rfl⟩
 have HST := Aside0.mk (show NmInv w (w1.alloc (.cells #[.bool false, .bool false, .bool false, .bool false, .bool false, .bool false, .bool false, .bool false] 79)) b [] v4 a from ⟨below_alloc HB1.out _, hb ▸ HB1.out.size, by rw [hb]; exact blk_new _ _, by rw [hb]; exact Kd.R_mono (Kd.R_types (mvR_ HR4.out) (blk_new _ _) (by decide)) (fun k hk => hk.2)⟩)
 rw [← hb]
 clear HR4 hb
 go_wp2
 go_loopg [4, 13] l1.length (fun gg v4 v13 wr => ∃ (j : Nat) (acc seen : List Int), v13 = .int .i64 j ∧ Aside0 (j ≤ l1.length ∧ l1.length - j ≤ gg) ∧ Aside0 (NmInv w wr b seen v4 acc) ∧ Aside0 (nmGo (l1.drop j) seen acc = some (r1, r2)))
 case atStart => exact ⟨0, a, [], rfl, ⟨Nat.zero_le _, by omega⟩, HST, H⟩
 case round =>
  obtain ⟨j, acc, seen, rfl, HJ, HI, HG⟩ := hrel
  clear HST H HB1
  by_cases hj : j < l1.length
  ·have b0 : decide ((j : Int) < (l1.length : Int)) = true := decide_eq_true (by omega)
   have b1 : decide (j < l1.length) = true := decide_eq_true hj
   have hbig := HBIG.out
   have hjb : j < 9223372036854775807 := by omega
   obtain ⟨ad, A1', c1', A2', c2', eA, hx0, hx1, hx2, _, _, _, _⟩ := at_T42 HR1.out (j : Int) (by omega) (by omega)
   obtain ⟨n, hn⟩ : ∃ n, n = rd_T42 l1 (j : Int) := ⟨_, rfl⟩
   have hd : l1.drop j = n :: l1.drop (j + 1) := by
    rw [List.drop_eq_getElem_cons hj, hn]
    simp [rd_T42, hj]
   rw [← hn] at hx0 hx1 hx2
   replace hx0 := pw_cell_below HI.out.bel hx0
   replace hx1 := pw_cell_below HI.out.bel hx1
   replace hx2 := pw_cell_below HI.out.bel hx2
   simp only [Int.toNat_natCast] at hx0 hx1 hx2
   have HG1 := HG.out
   rw [hd, nmGo] at HG1
   obtain ⟨p, hp⟩ : ∃ p, p = n.f0 := ⟨_, rfl⟩
   obtain ⟨m1, hv1⟩ : ∃ m1, m1 = n.f1.f0.length := ⟨_, rfl⟩
   obtain ⟨m2, hv2⟩ : ∃ m2, m2 = n.f1.f1.length := ⟨_, rfl⟩
   rw [← hp] at HG1 hx0
   rw [← hv1] at hx1
   rw [← hv2] at hx2
   subst eA
   have q0 : (0 ≤ (j : Int)) = True := eq_true (by omega)
   have q1 : ((j : Int) < (l1.length : Int)) = True := eq_true (by omega)
   have HJJ := Aside0.mk hj
   have HW := Aside0.mk (And.intro (wone_ hjb) (by rw [wr64', wone_ hjb] : IntKind.i64.wrap ((j : Int) + 1) = ((j + 1 : Nat) : Int)))
   clear hd hn hp hv1 hv2 hbig hjb hj HG
   by_cases hc : isPar p = true ∧ p ∉ seen
   ·rw [if_pos hc] at HG1
    have hpp := hc.1
    simp only [isPar, Bool.and_eq_true, decide_eq_true_eq] at hpp
    have p0 : (0 ≤ p) = True := eq_true hpp.1
    have p1 : (p < 8) = True := eq_true hpp.2
    have hl : acc.length < 17592186044416 := by
     by_cases hl : acc.length < 17592186044416
     ·exact hl
     ·rw [if_neg hl] at HG1; cases HG1
    rw [if_pos hl] at HG1
    have HG2 := Aside0.mk HG1
    have HC := Aside0.mk hc
    have HL := Aside0.mk hl
    have hpar := hc.1
    clear hc hpp hl HG1
    go_upto_region 6 with ((with_reducible refine gate_dst (N := 8) rfl ?_); refine box_event ?hg (N := 8) ?hd (cs := #[.int .i64 0, .slice none 0 0, .slice none 0 0]) (t := 42) ?hr ?_; (case hd => rfl); (case hg => rfl); (case hr => first | (go_simp; done) | (go_simp; rfl)); intro gb hg w9 hbox hb; have HG9 := Aside0.mk hg; have HX9 := Aside0.mk hbox; have HB9 := Aside0.mk hb; have z0 : w9.cell? ⟨gb, 0, none⟩ = some (.int .i64 0) := (blk_cell hbox 0).trans rfl; have z1 : w9.cell? ⟨gb, 1, none⟩ = some (.slice none 0 0) := (blk_cell hbox 1).trans rfl; have z2 : w9.cell? ⟨gb, 2, none⟩ = some (.slice none 0 0) := (blk_cell hbox 2).trans rfl; have f0 := blk_frozen hbox 0; have f1 := blk_frozen hbox 1; have f2 := blk_frozen hbox 2; clear hbox hb hg)
    generalize hW : (((w9.setCell ⟨gb, 0, none⟩ (.int .i64 p)).setCell ⟨gb, 1, none⟩ (.slice A1' m1 c1')).setCell ⟨gb, 2, none⟩ (.slice A2' m2 c2')) = W
    have hbW : Below wr.heap.size wr W := by
     rw [← hW]
     have hge : wr.heap.size ≤ gb := by rw [HG9.out]; exact Nat.le_refl _
     exact ((HB9.out.setCell (p := ⟨gb, 0, none⟩) hge _).setCell (p := ⟨gb, 1, none⟩) hge _).setCell (p := ⟨gb, 2, none⟩) hge _
    have hbk : W.heap[gb]? = some (.cells #[.int .i64 p, .slice A1' m1 c1', .slice A2' m2 c2'] 42 (0, 0)) := by
     rw [← hW]
     exact blk_put (blk_put (blk_put HX9.out 0 _ rfl) 1 _ rfl) 2 _ rfl
    have HI2 := Aside0.mk (HI.out.below hbW)
    have HX := Aside0.mk hbk
    have g0 : W.cell? ⟨gb, 0, none⟩ = some (.int .i64 p) := (blk_cell hbk 0).trans rfl
    clear hW hbW hbk z0 z1 z2 f0 f1 f2 HI HX9 HB9 hx0 hx1 hx2
    go_upto_region 9 with (go_at_call 37; refine (store_param.calls p true _ (by rw [param_f, hpar])).mono ?_; rintro e w2 ⟨rfl, hd⟩; have HI3 := Aside0.mk (HI2.out.below hd.below); have HX3 := Aside0.mk (blk_below HX.out hd.below); have z0 : w2.cell? ⟨gb, 0, none⟩ = some (.int .i64 p) := (blk_cell HX3.out 0).trans rfl; have za : w2.cell? ⟨b, p.toNat, none⟩ = some (.bool false) := by { rw [blk_cell HI3.out.arr, seenC_get seen hpar, decide_eq_false HC.out.2] }; have fa := blk_frozen HI3.out.arr p.toNat; have zf : (w2.setCell ⟨b, p.toNat, none⟩ (.bool true)).cell? ⟨gb, 0, none⟩ = some (.int .i64 p) := (cell_far (p := ⟨b, p.toNat, none⟩) (fun e => by { have e : gb = b := e; have h1 := HX3.out; rw [e, HI3.out.arr] at h1; injection h1 with h1; injection h1 with h1 h2; cases h2 }) _).trans z0; clear hd)
    have HI4 := Aside0.mk (show NmInv w (w2.setCell ⟨b, p.toNat, none⟩ (.bool true)) b (p :: seen) u4 acc from ⟨HI3.out.bel.setCell (p := ⟨b, p.toNat, none⟩) HI3.out.ge _, HI3.out.ge, blk_put HI3.out.arr p.toNat (.bool true) (seenC_put seen hpar), Kd.R_far (p := ⟨b, p.toNat, none⟩) HI3.out.row (fun k hk => hk) _⟩)
    generalize w2.setCell ⟨b, p.toNat, none⟩ (.bool true) = w4 at HI4 zf ⊢
    obtain ⟨ew, ew'⟩ := HW.out
    go_wp2_with ((with_reducible refine gate_builtin (b := .append) (xs := #[.tmp 30, .tmp 33]) rfl ?_); at_builtin; refine Kd.R_append (Kd.int .i64) (w0 := w) w.heap.size rfl (.tmp 30) (.tmp 33) 23 3 (.int .i64 0) 8 rfl Try.underlying23 info3 rfl (by decide) (by omega) u4 acc p [.int .i64 p] (fun g => g ≠ b) (fun _ => False) rfl rfl ?aP (fun _ hk => hk.elim) ?aF ?aO ?aB ?aS ?aL ?_; (case aP => exact rfl); (case aB => exact HI4.out.bel); (case aF => exact (fun g hg => Nat.ne_of_gt (Nat.lt_of_lt_of_le (blk_lt HI4.out.arr) hg))); (case aO => exact (mvR_ HI4.out.row)); (case aS => exact (below_size HI4.out.bel)); (case aL => have := HL.out; omega); intro v5 w5 ho hb hg hat; have HI5 := Aside0.mk (show NmInv w w5 b (p :: seen) v5 (acc ++ [p]) from ⟨hb, HI4.out.ge, blk_grown HI4.out.arr hg (Kd.R_ne HI4.out.row HI4.out.arr (by decide)), ho⟩); clear ho hb hg hat)
    go_roundg (l1.length - (j + 1))
    case measure => have := HJ.out; have := HJJ.out; omega
    case rel => exact ⟨j + 1, acc ++ [p], p :: seen, rfl, ⟨by have := HJ.out; have := HJJ.out; omega⟩, HI5, HG2⟩
   ·rw [if_neg hc] at HG1
    injection HG1 with HG1
    injection HG1 with e1 e2
    subst e1 e2
    cases hpar : isPar p with
    | false =>
     clear hc
     go_upto_region 6 with ((with_reducible refine gate_dst (N := 8) rfl ?_); refine box_event ?hg (N := 8) ?hd (cs := #[.int .i64 0, .slice none 0 0, .slice none 0 0]) (t := 42) ?hr ?_; (case hd => rfl); (case hg => rfl); (case hr => first | (go_simp; done) | (go_simp; rfl)); intro gb hg w9 hbox hb; have HG9 := Aside0.mk hg; have HX9 := Aside0.mk hbox; have HB9 := Aside0.mk hb; have z0 : w9.cell? ⟨gb, 0, none⟩ = some (.int .i64 0) := (blk_cell hbox 0).trans rfl; have z1 : w9.cell? ⟨gb, 1, none⟩ = some (.slice none 0 0) := (blk_cell hbox 1).trans rfl; have z2 : w9.cell? ⟨gb, 2, none⟩ = some (.slice none 0 0) := (blk_cell hbox 2).trans rfl; have f0 := blk_frozen hbox 0; have f1 := blk_frozen hbox 1; have f2 := blk_frozen hbox 2; clear hbox hb hg)
     generalize hW : (((w9.setCell ⟨gb, 0, none⟩ (.int .i64 p)).setCell ⟨gb, 1, none⟩ (.slice A1' m1 c1')).setCell ⟨gb, 2, none⟩ (.slice A2' m2 c2')) = W
     have hbW : Below wr.heap.size wr W := by
      rw [← hW]
      have hge : wr.heap.size ≤ gb := by rw [HG9.out]; exact Nat.le_refl _
      exact ((HB9.out.setCell (p := ⟨gb, 0, none⟩) hge _).setCell (p := ⟨gb, 1, none⟩) hge _).setCell (p := ⟨gb, 2, none⟩) hge _
     have hbk : W.heap[gb]? = some (.cells #[.int .i64 p, .slice A1' m1 c1', .slice A2' m2 c2'] 42 (0, 0)) := by
      rw [← hW]
      exact blk_put (blk_put (blk_put HX9.out 0 _ rfl) 1 _ rfl) 2 _ rfl
     have HI2 := Aside0.mk (HI.out.below hbW)
     have g0 : W.cell? ⟨gb, 0, none⟩ = some (.int .i64 p) := (blk_cell hbk 0).trans rfl
     clear hW hbW hbk z0 z1 z2 f0 f1 f2 HI HX9 HB9 hx0 hx1 hx2
     go_wp2_with (go_at_call 37; refine (store_param.calls p false _ (by rw [param_f, hpar])).mono ?_; rintro e w2 ⟨rfl, hd⟩; have HI3 := Aside0.mk (HI2.out.below hd.below); clear hd)
     go_ret2
     exact ⟨_, rfl, Kd.R_nil _ _ _ _ _, HI3.out.bel⟩
    | true =>
     have hin : p ∈ seen := by
      by_cases hin : p ∈ seen
      ·exact hin
      ·exact absurd ⟨hpar, hin⟩ hc
     have hpp := hpar
     simp only [isPar, Bool.and_eq_true, decide_eq_true_eq] at hpp
     have p0 : (0 ≤ p) = True := eq_true hpp.1
     have p1 : (p < 8) = True := eq_true hpp.2
     have HC := Aside0.mk hin
     clear hc hin hpp
     go_upto_region 6 with ((with_reducible refine gate_dst (N := 8) rfl ?_); refine box_event ?hg (N := 8) ?hd (cs := #[.int .i64 0, .slice none 0 0, .slice none 0 0]) (t := 42) ?hr ?_; (case hd => rfl); (case hg => rfl); (case hr => first | (go_simp; done) | (go_simp; rfl)); intro gb hg w9 hbox hb; have HG9 := Aside0.mk hg; have HX9 := Aside0.mk hbox; have HB9 := Aside0.mk hb; have z0 : w9.cell? ⟨gb, 0, none⟩ = some (.int .i64 0) := (blk_cell hbox 0).trans rfl; have z1 : w9.cell? ⟨gb, 1, none⟩ = some (.slice none 0 0) := (blk_cell hbox 1).trans rfl; have z2 : w9.cell? ⟨gb, 2, none⟩ = some (.slice none 0 0) := (blk_cell hbox 2).trans rfl; have f0 := blk_frozen hbox 0; have f1 := blk_frozen hbox 1; have f2 := blk_frozen hbox 2; clear hbox hb hg)
     generalize hW : (((w9.setCell ⟨gb, 0, none⟩ (.int .i64 p)).setCell ⟨gb, 1, none⟩ (.slice A1' m1 c1')).setCell ⟨gb, 2, none⟩ (.slice A2' m2 c2')) = W
     have hbW : Below wr.heap.size wr W := by
      rw [← hW]
      have hge : wr.heap.size ≤ gb := by rw [HG9.out]; exact Nat.le_refl _
      exact ((HB9.out.setCell (p := ⟨gb, 0, none⟩) hge _).setCell (p := ⟨gb, 1, none⟩) hge _).setCell (p := ⟨gb, 2, none⟩) hge _
     have hbk : W.heap[gb]? = some (.cells #[.int .i64 p, .slice A1' m1 c1', .slice A2' m2 c2'] 42 (0, 0)) := by
      rw [← hW]
      exact blk_put (blk_put (blk_put HX9.out 0 _ rfl) 1 _ rfl) 2 _ rfl
     have HI2 := Aside0.mk (HI.out.below hbW)
     have HX := Aside0.mk hbk
     have g0 : W.cell? ⟨gb, 0, none⟩ = some (.int .i64 p) := (blk_cell hbk 0).trans rfl
     clear hW hbW hbk z0 z1 z2 f0 f1 f2 HI HX9 HB9 hx0 hx1 hx2
     go_wp2_with (go_at_call 37; refine (store_param.calls p true _ (by rw [param_f, hpar])).mono ?_; rintro e w2 ⟨rfl, hd⟩; have HI3 := Aside0.mk (HI2.out.below hd.below); have HX3 := Aside0.mk (blk_below HX.out hd.below); have z0 : w2.cell? ⟨gb, 0, none⟩ = some (.int .i64 p) := (blk_cell HX3.out 0).trans rfl; have za : w2.cell? ⟨b, p.toNat, none⟩ = some (.bool true) := by { rw [blk_cell HI3.out.arr, seenC_get seen hpar, decide_eq_true HC.out] }; clear hd)
     go_ret2
     exact ⟨_, rfl, Kd.R_nil _ _ _ _ _, HI3.out.bel⟩
  ·have b0 : decide ((j : Int) < (l1.length : Int)) = false := decide_eq_false (by omega)
   have b1 : decide (j < l1.length) = false := decide_eq_false hj
   have hG := HG.out
   rw [List.drop_eq_nil_of_le (by omega), nmGo] at hG
   injection hG with hG
   injection hG with e1 e2
   subst e1 e2
   clear hj HG
   obtain ⟨Ao, co, eo⟩ := Kd.R_slice HI.out.row
   subst eo
   go_wp2_with (go_at_call 30; (with_reducible refine (slices_ContainsFunc_int_int.by_ (fun p => !isPar p) 47 #[] Ao co acc _ ?s1 ?s2 ?s3).mono ?_); (case s1 => exact (Kd.R_reads' HI.out.row).2.2); (case s2 => exact enters_ Try.prog Try.func47 (by kernel_rfl) rfl); (case s3 => exact (fun W x hx hb => named1 x W)); rintro e w3 ⟨rfl, hb⟩; have HB3 := Aside0.mk hb; clear hb)
   go_ret2
   exact ⟨_, rfl, Kd.R_mono (Kd.R_below HI.out.row HB3.out) (fun _ _ => trivial), below_step HI.out.bel HB3.out⟩
def slices_isNaN_int.f (a0 : Int) : Option (Bool) := some (a0 != a0)
set_option maxHeartbeats 8000000 in
set_option maxRecDepth 100000 in
theorem slices_isNaN_int.calls (a0 : Int) (r : Bool) (w : World) (h : slices_isNaN_int.f a0 = some r) :
    Calls Try.prog 48 #[.int .i64 a0] w fun e w' => e = .returned (.bool r) ∧ Drawn0 w w' := by
  have H : (some (a0 != a0)) = some r := h
  clear h
  obtain rfl := Option.some.inj H
  go_enter Try.func48, Try.ntmps48
  go_wp2
  go_ret
  exact ⟨by first | rfl | (simp; done) | (simp [*]; done), by repeat (first | exact Drawn0.refl _ | apply Drawn0.step)⟩
def slices_BinarySearch_int_int.l0 : Nat → List Int → Int → Int → Int → Int → Option (Int × Bool)
 | 0, _, _, _, _, _ => none
 | k + 1, x0, x1, x6, x7, x8 => if x7 < x8 then (if 0 ≤ (wrap64 ((IntKind.u64.wrap (wrap64 (x7 + x8))) / 2)) then (if (wrap64 ((IntKind.u64.wrap (wrap64 (x7 + x8))) / 2)) < (x0.length : Int) then ((cmp_Less_int.f (rd x0 (wrap64 ((IntKind.u64.wrap (wrap64 (x7 + x8))) / 2))) x1).bind fun t122 => (if t122 = true then (slices_BinarySearch_int_int.l0 k x0 x1 x6 (wrap64 ((wrap64 ((IntKind.u64.wrap (wrap64 (x7 + x8))) / 2)) + 1)) x8) else (slices_BinarySearch_int_int.l0 k x0 x1 x6 x7 (wrap64 ((IntKind.u64.wrap (wrap64 (x7 + x8))) / 2))))) else (none)) else (none)) else (if x7 < x6 then (if 0 ≤ x7 then (if x7 < (x0.length : Int) then (if (rd x0 x7) = x1 then (some (x7, true)) else ((slices_isNaN_int.f (rd x0 x7)).bind fun t125 => (if t125 = true then ((slices_isNaN_int.f x1).bind fun t126 => (some (x7, t126))) else (some (x7, false))))) else (none)) else (none)) else (some (x7, false)))
def slices_BinarySearch_int_int.f (k : Nat) (l0 : List Int) (a1 : Int) : Option (Int × Bool) := slices_BinarySearch_int_int.l0 k l0 a1 (l0.length : Int) 0 (l0.length : Int)
theorem slices_BinarySearch_int_int.mono_l : ∀ k, (∀ y0 y1 y2 y3 y4, LeO (slices_BinarySearch_int_int.l0 k y0 y1 y2 y3 y4) (slices_BinarySearch_int_int.l0 (k + 1) y0 y1 y2 y3 y4))
 | 0 => fun _ _ _ _ _ r h => by simp [slices_BinarySearch_int_int.l0] at h
 | k + 1 => by
  have ih0 := slices_BinarySearch_int_int.mono_l k
  ·intro y0 y1 y2 y3 y4
   unfold slices_BinarySearch_int_int.l0
   repeat' first
    | (with_reducible first | exact ih0 _ _ _ _ _ | exact LeO.refl _ | exact LeO.none _ | refine LeO.ite ?_ ?_ | refine LeO.bind ?_ (fun _ => ?_))
    | first | exact ih0 _ _ _ _ _ | exact LeO.none _ | refine LeO.ite ?_ ?_ | refine LeO.bind ?_ (fun _ => ?_)
theorem slices_BinarySearch_int_int.mono : ∀ a0 a1 k, LeO (slices_BinarySearch_int_int.f k a0 a1) (slices_BinarySearch_int_int.f (k + 1) a0 a1) := by
 intro a0 a1 k
 have ih0 := slices_BinarySearch_int_int.mono_l k
 unfold slices_BinarySearch_int_int.f
 repeat' first
  | (with_reducible first | exact ih0 _ _ _ _ _ | exact LeO.refl _ | exact LeO.none _ | refine LeO.ite ?_ ?_ | refine LeO.bind ?_ (fun _ => ?_))
  | first | exact ih0 _ _ _ _ _ | exact LeO.none _ | refine LeO.ite ?_ ?_ | refine LeO.bind ?_ (fun _ => ?_)
set_option maxHeartbeats 8000000 in
set_option maxRecDepth 100000 in
theorem slices_BinarySearch_int_int.calls (k : Nat) (A0 : Option Addr) (c0 : Nat) (l0 : List Int) (a1 : Int) (r1 : Int) (r2 : Bool) (w : World) (hr0 : Kd.C (Kd.int .i64) w A0 l0.length l0) (hc0 : l0.length ≤ c0) (h : slices_BinarySearch_int_int.f k l0 a1 = some (r1, r2)) :
  Calls Try.prog 32 #[.slice A0 l0.length c0, .int .i64 a1] w fun e w' => e = .returned (.tuple #[.int .i64 r1, .bool r2]) ∧ Drawn0 w w' := by
 have HR0 := Aside0.mk hr0
 have HC0 := Aside0.mk hc0
 clear hr0 hc0
 have H : (slices_BinarySearch_int_int.l0 k l0 a1 (l0.length : Int) 0 (l0.length : Int)) = some (r1, r2) := h
 clear h
 have H' := Aside0.mk H
 clear H
 go_enter Try.func32, Try.ntmps32
 go_wp2
 go_loopg [7, 8] k (fun kq v7 v8 w' => ∃ (x7_1 : Int) (x8_1 : Int), v7 = .int .i64 x7_1 ∧ v8 = .int .i64 x8_1 ∧ Aside0 (slices_BinarySearch_int_int.l0 kq l0 a1 (l0.length : Int) x7_1 x8_1 = some (r1, r2)) ∧ Aside0 (kq ≤ k) ∧ Drawn0 w w')
 case atStart => exact ⟨(0), ((l0.length : Int)), (by first | rfl | (simp; done) | (simp [*]; done)), (by first | rfl | (simp; done) | (simp [*]; done)), H', ⟨Nat.le_refl _⟩, by repeat (first | exact Drawn0.refl _ | apply Drawn0.step)⟩
 case round =>
  clear H'
  try clear p2
  obtain ⟨x7_1, x8_1, rfl, rfl, HA, HK1, ⟨m1, rfl⟩⟩ := hrel
  cases gk with
  | zero => exact absurd HA.out (by simp [slices_BinarySearch_int_int.l0])
  | succ k1 =>
   have H := HA.out
   clear HA
   simp only [slices_BinarySearch_int_int.l0] at H
   by_cases c3 : x7_1 < x8_1
   ·rw [if_pos c3] at H
    have c3b0 : decide (x7_1 < x8_1) = true := decide_eq_true c3
    clear c3
    obtain ⟨ji4, hji4⟩ : ∃ j_ : Int, (wrap64 ((IntKind.u64.wrap (wrap64 (x7_1 + x8_1))) / 2)) = j_ := ⟨_, rfl⟩
    replace H : (if 0 ≤ (ji4) then (if (ji4) < (l0.length : Int) then ((cmp_Less_int.f (rd l0 (ji4)) a1).bind fun t122 => (if t122 = true then (slices_BinarySearch_int_int.l0 k1 l0 a1 (l0.length : Int) (wrap64 ((ji4) + 1)) x8_1) else (slices_BinarySearch_int_int.l0 k1 l0 a1 (l0.length : Int) x7_1 ji4))) else (none)) else (none)) = some (r1, r2) := by first | (rw [hji4] at H; exact H) | (simp only [hji4] at H ⊢; exact H)
    have hji4w : (IntKind.i64.wrap ((IntKind.u64.wrap (wrap64 (x7_1 + x8_1))) / 2)) = ji4 := (i64_w _).trans hji4
    by_cases c5 : 0 ≤ (ji4)
    ·rw [if_pos c5] at H
     have c5b0 : decide (0 ≤ (ji4)) = true := decide_eq_true c5
     clear c5
     by_cases c6 : (ji4) < (l0.length : Int)
     ·rw [if_pos c6] at H
      have c6b0 : decide ((ji4) < (l0.length : Int)) = true := decide_eq_true c6
      clear c6
      replace H := Option.bind_eq_some_iff.mp H
      obtain ⟨t122, A70, H⟩ := H
      replace H : (if t122 = true then (slices_BinarySearch_int_int.l0 k1 l0 a1 (l0.length : Int) (wrap64 ((ji4) + 1)) x8_1) else (slices_BinarySearch_int_int.l0 k1 l0 a1 (l0.length : Int) x7_1 ji4)) = some (r1, r2) := H
      have A7 := Aside0.mk A70
      clear A70
      by_cases c8 : t122 = true
      ·subst c8
       have H1 : (slices_BinarySearch_int_int.l0 k1 l0 a1 (l0.length : Int) (wrap64 ((ji4) + 1)) x8_1) = some (r1, r2) := by rw [if_pos rfl] at H; exact H
       clear H
       have H := H1
       clear H1
       have H' := Aside0.mk H
       clear H
       have p121 : 0 ≤ ((ji4) : Int) := of_decide_eq_true (by first | (with_reducible assumption) | assumption)
       have q121 : (ji4) < (l0.length : Int) := of_decide_eq_true (by first | (with_reducible assumption) | assumption)
       obtain ⟨ad121, e121, hx121_0⟩ := Kd.at_int HR0.out (ji4) p121 q121
       cases e121
       replace p121 := eq_true p121
       replace q121 := eq_true q121
       go_wp2_with (first | ((with_reducible refine gate_callee (f := 42) rfl ?_); refine goesL_ (some 27) rfl rfl Try.func42 (by kernel_rfl) rfl #[.int .i64 (rd l0 (ji4)), .int .i64 a1] rfl (by (try simp only [List.map_toArray, List.map_cons, List.map_nil]); first | done | (simp only [hji4]; rfl) | rfl | (simp only [List.length_drop, List.length_take]; rfl)) ?_; (with_reducible refine (cmp_Less_int.calls (rd l0 (ji4)) a1 true _ A7.out).mono ?_); rintro e w' ⟨rfl, ⟨nd, rfl⟩⟩; refine ⟨_, rfl, ?_⟩))
       go_roundg k1
       case measure => have := HK1.out; omega
       case rel => exact ⟨(wrap64 ((ji4) + 1)), (x8_1), (by first | rfl | (simp; done) | (simp only [← hji4] <;> (first | rfl | simp)) | (simp [*]; done)), (by first | rfl | (simp; done) | (simp [*]; done)), H', ⟨by have := HK1.out; omega⟩, by repeat (first | exact Drawn0.refl _ | apply Drawn0.step)⟩
      ·replace c8 := Bool.eq_false_iff.mpr c8
       subst c8
       have H1 : (slices_BinarySearch_int_int.l0 k1 l0 a1 (l0.length : Int) x7_1 ji4) = some (r1, r2) := by rw [if_neg (show ¬ (false = true) by decide)] at H; exact H
       clear H
       have H := H1
       clear H1
       have H' := Aside0.mk H
       clear H
       have p121 : 0 ≤ ((ji4) : Int) := of_decide_eq_true (by first | (with_reducible assumption) | assumption)
       have q121 : (ji4) < (l0.length : Int) := of_decide_eq_true (by first | (with_reducible assumption) | assumption)
       obtain ⟨ad121, e121, hx121_0⟩ := Kd.at_int HR0.out (ji4) p121 q121
       cases e121
       replace p121 := eq_true p121
       replace q121 := eq_true q121
       go_wp2_with (first | ((with_reducible refine gate_callee (f := 42) rfl ?_); refine goesL_ (some 27) rfl rfl Try.func42 (by kernel_rfl) rfl #[.int .i64 (rd l0 (ji4)), .int .i64 a1] rfl (by (try simp only [List.map_toArray, List.map_cons, List.map_nil]); first | done | (simp only [hji4]; rfl) | rfl | (simp only [List.length_drop, List.length_take]; rfl)) ?_; (with_reducible refine (cmp_Less_int.calls (rd l0 (ji4)) a1 false _ A7.out).mono ?_); rintro e w' ⟨rfl, ⟨nd, rfl⟩⟩; refine ⟨_, rfl, ?_⟩))
       go_roundg k1
       case measure => have := HK1.out; omega
       case rel => exact ⟨(x7_1), (ji4), (by first | rfl | (simp; done) | (simp [*]; done)), (by first | rfl | (simp; done) | (simp only [← hji4] <;> (first | rfl | simp)) | (simp [*]; done)), H', ⟨by have := HK1.out; omega⟩, by repeat (first | exact Drawn0.refl _ | apply Drawn0.step)⟩
     ·rw [if_neg c6] at H
      exact absurd H (by simp)
    ·rw [if_neg c5] at H
     exact absurd H (by simp)
   ·rw [if_neg c3] at H
    have c3b0 : decide (x7_1 < x8_1) = false := decide_eq_false c3
    clear c3
    by_cases c9 : x7_1 < (l0.length : Int)
    ·rw [if_pos c9] at H
     have c9b0 : decide (x7_1 < (l0.length : Int)) = true := decide_eq_true c9
     clear c9
     by_cases c10 : 0 ≤ x7_1
     ·rw [if_pos c10] at H
      have c10b0 : decide (0 ≤ x7_1) = true := decide_eq_true c10
      clear c10
      by_cases c11 : x7_1 < (l0.length : Int)
      ·rw [if_pos c11] at H
       have c11b0 : decide (x7_1 < (l0.length : Int)) = true := decide_eq_true c11
       clear c11
       by_cases c12 : (rd l0 x7_1) = a1
       ·rw [if_pos c12] at H
        obtain ⟨c12b0, c12b1⟩ := eqT_ c12
        clear c12
        simp only [Option.some.injEq, Prod.mk.injEq] at H
        obtain ⟨rfl, rfl⟩ := H
        have p123 : 0 ≤ (x7_1 : Int) := of_decide_eq_true (by first | (with_reducible assumption) | assumption)
        have q123 : x7_1 < (l0.length : Int) := of_decide_eq_true (by first | (with_reducible assumption) | assumption)
        obtain ⟨ad123, e123, hx123_0⟩ := Kd.at_int HR0.out x7_1 p123 q123
        cases e123
        replace p123 := eq_true p123
        replace q123 := eq_true q123
        go_wp2
        go_ret2
        exact ⟨by first | rfl | (simp; done) | (simp [*]; done), by repeat (first | exact Drawn0.refl _ | apply Drawn0.step)⟩
       ·rw [if_neg c12] at H
        have c12b0 : ((rd l0 x7_1) == a1) = false := beq_eq_false_iff_ne.mpr c12
        have c12b1 : ((rd l0 x7_1) != a1) = true := bne_iff_ne.mpr c12
        replace H := Option.bind_eq_some_iff.mp H
        obtain ⟨t125, A130, H⟩ := H
        replace H : (if t125 = true then ((slices_isNaN_int.f a1).bind fun t126 => (some (x7_1, t126))) else (some (x7_1, false))) = some (r1, r2) := H
        have A13 := Aside0.mk A130
        clear A130
        by_cases c14 : t125 = true
        ·subst c14
         have H1 : ((slices_isNaN_int.f a1).bind fun t126 => (some (x7_1, t126))) = some (r1, r2) := by rw [if_pos rfl] at H; exact H
         clear H
         have H := H1
         clear H1
         replace H := Option.bind_eq_some_iff.mp H
         obtain ⟨t126, A150, H⟩ := H
         replace H : (some (x7_1, t126)) = some (r1, r2) := H
         have A15 := Aside0.mk A150
         clear A150
         simp only [Option.some.injEq, Prod.mk.injEq] at H
         obtain ⟨rfl, rfl⟩ := H
         have p123 : 0 ≤ (x7_1 : Int) := of_decide_eq_true (by first | (with_reducible assumption) | assumption)
         have q123 : x7_1 < (l0.length : Int) := of_decide_eq_true (by first | (with_reducible assumption) | assumption)
         obtain ⟨ad123, e123, hx123_0⟩ := Kd.at_int HR0.out x7_1 p123 q123
         cases e123
         replace p123 := eq_true p123
         replace q123 := eq_true q123
         have p124 : 0 ≤ (x7_1 : Int) := of_decide_eq_true (by first | (with_reducible assumption) | assumption)
         have q124 : x7_1 < (l0.length : Int) := of_decide_eq_true (by first | (with_reducible assumption) | assumption)
         obtain ⟨ad124, e124, hx124_0⟩ := Kd.at_int HR0.out x7_1 p124 q124
         obtain rfl : ad123 = ad124 := (by injection e124)
         replace p124 := eq_true p124
         replace q124 := eq_true q124
         go_wp2_with (first | (go_at_call 48; (with_reducible refine (slices_isNaN_int.calls (rd l0 x7_1) true _ A13.out).mono ?_); rintro e w' ⟨rfl, ⟨nd, rfl⟩⟩) | (go_at_call 48; (with_reducible refine (slices_isNaN_int.calls a1 t126 _ A15.out).mono ?_); rintro e w' ⟨rfl, ⟨nd, rfl⟩⟩))
         go_ret2
         exact ⟨by first | rfl | (simp; done) | (simp [*]; done), by repeat (first | exact Drawn0.refl _ | apply Drawn0.step)⟩
        ·replace c14 := Bool.eq_false_iff.mpr c14
         subst c14
         have H1 : (some (x7_1, false)) = some (r1, r2) := by rw [if_neg (show ¬ (false = true) by decide)] at H; exact H
         clear H
         have H := H1
         clear H1
         simp only [Option.some.injEq, Prod.mk.injEq] at H
         obtain ⟨rfl, rfl⟩ := H
         have p123 : 0 ≤ (x7_1 : Int) := of_decide_eq_true (by first | (with_reducible assumption) | assumption)
         have q123 : x7_1 < (l0.length : Int) := of_decide_eq_true (by first | (with_reducible assumption) | assumption)
         obtain ⟨ad123, e123, hx123_0⟩ := Kd.at_int HR0.out x7_1 p123 q123
         cases e123
         replace p123 := eq_true p123
         replace q123 := eq_true q123
         have p124 : 0 ≤ (x7_1 : Int) := of_decide_eq_true (by first | (with_reducible assumption) | assumption)
         have q124 : x7_1 < (l0.length : Int) := of_decide_eq_true (by first | (with_reducible assumption) | assumption)
         obtain ⟨ad124, e124, hx124_0⟩ := Kd.at_int HR0.out x7_1 p124 q124
         obtain rfl : ad123 = ad124 := (by injection e124)
         replace p124 := eq_true p124
         replace q124 := eq_true q124
         go_wp2_with (first | (go_at_call 48; (with_reducible refine (slices_isNaN_int.calls (rd l0 x7_1) false _ A13.out).mono ?_); rintro e w' ⟨rfl, ⟨nd, rfl⟩⟩))
         go_ret2
         exact ⟨by first | rfl | (simp; done) | (simp [*]; done), by repeat (first | exact Drawn0.refl _ | apply Drawn0.step)⟩
      ·rw [if_neg c11] at H
       exact absurd H (by simp)
     ·rw [if_neg c10] at H
      exact absurd H (by simp)
    ·rw [if_neg c9] at H
     have c9b0 : decide (x7_1 < (l0.length : Int)) = false := decide_eq_false c9
     clear c9
     simp only [Option.some.injEq, Prod.mk.injEq] at H
     obtain ⟨rfl, rfl⟩ := H
     go_wp2
     go_ret2
     exact ⟨by first | rfl | (simp; done) | (simp [*]; done), by repeat (first | exact Drawn0.refl _ | apply Drawn0.step)⟩
def api_Version_49.f (l0 : List (S74)) : Option ((List (S74))) := (some (([] : List (S74)) : List (S74))).bind fun y127 => (if y127.length + l0.length < 2513169434916 then (some (y127 ++ l0)) else (none))
set_option maxHeartbeats 8000000 in
set_option maxRecDepth 100000 in
theorem api_Version_49.calls (P0_ : Nat → Prop) (A0 : Option Addr) (c0 : Nat) (l0 : List (S74)) (r : List (S74)) (w : World) (hs0 : Kd.V k74 74 w w.heap.size (fun k_ => P0_ k_) (.slice A0 l0.length c0) l0) (h : api_Version_49.f l0 = some r) :
    Calls Try.prog 49 #[.slice A0 l0.length c0] w fun e w' => ∃ v0_ : Value, e = .returned (v0_) ∧ Kd.N k74 74 w' w.heap.size (fun k_ => (P0_ k_ ∨ w.heap.size ≤ k_)) v0_ r ∧ Below w.heap.size w w' := by
  rcases A0 with _ | ad0
  · have hC := (Kd.V_reads' hs0).2.2
    have h0 : l0 = [] := by
      by_cases hn : l0 = []
      · exact hn
      · exfalso
        obtain ⟨ad, _, he, _⟩ := Kd.C_get hC z74 0 (by omega) (by have := List.length_pos_iff.mpr hn; omega)
        cases he
    subst h0
    have hr : r = [] := by
      have h2 := h
      simp [api_Version_49.f] at h2
      first | exact h2.symm | exact h2 | simp_all
    subst hr
    clear hC h hs0
    have hne : ∀ W : World, (binOp .eql 54 (.slice none 0 c0) (.slice none 0 0)).run Try.prog W = .ok (.bool true) W := fun W => Lib.run_eql_slice_nil W 54 74 none 0 c0 0 0 Try.underlying54
    simp only [List.length_nil]
    go_enter Try.func49, Try.ntmps49
    go_wp2
    go_ret
    exact ⟨_, rfl, Kd.N_nil _ _ _ _ _, Below.refl _ _⟩
  have hne : ∀ W : World, (binOp .eql 54 (.slice (some ad0) l0.length c0) (.slice none 0 0)).run Try.prog W = .ok (.bool false) W := fun W => Lib.run_eql_slice_nil W 54 74 (some ad0) l0.length c0 0 0 Try.underlying54
  have HO0 := Aside0.mk (show Kd.V k74 74 w w.heap.size (fun k_ => (P0_ k_ ∨ w.heap.size ≤ k_)) (.slice (some ad0) l0.length c0) l0 from Kd.V_mono hs0 (fun k_ hk => .inl hk))
  have HB := Aside0.mk (Below.refl w.heap.size w)
  have H : ((some (([] : List (S74)) : List (S74))).bind fun y127 => (if y127.length + l0.length < 2513169434916 then (some (y127 ++ l0)) else (none))) = some r := h
  clear h
  obtain ⟨y127, hy127⟩ : ∃ y_ : List (S74), y_ = (([] : List (S74))) := ⟨_, rfl⟩
  replace H : (if y127.length + l0.length < 2513169434916 then (some (y127 ++ l0)) else (none)) = some r := by first | (rw [hy127]; with_reducible exact H) | (have H2_ := (Option.bind_some _ _).symm.trans H; rw [hy127]; with_reducible exact H2_) | (have H2_ := (Option.bind_some _ _).symm.trans H; with_reducible exact H2_) | with_reducible exact H | (rw [hy127]; exact H) | exact H
  have Ny127 := Aside0.mk hy127
  clear hy127
  by_cases c2 : y127.length + l0.length < 2513169434916
  · rw [if_pos c2] at H
    have LMc2 := Aside0.mk c2
    clear c2
    obtain ⟨y130, hy130⟩ : ∃ y_ : List (S74), y_ = (y127 ++ l0) := ⟨_, rfl⟩
    replace H : (some y130) = some r := by first | (rw [hy130]; with_reducible exact H) | (have H2_ := (Option.bind_some _ _).symm.trans H; rw [hy130]; with_reducible exact H2_) | (have H2_ := (Option.bind_some _ _).symm.trans H; with_reducible exact H2_) | with_reducible exact H | (rw [hy130]; exact H) | exact H
    have Ny130 := Aside0.mk hy130
    clear hy130
    obtain rfl := Option.some.inj H
    go_enter Try.func49, Try.ntmps49
    go_wp2_with (first | ((with_reducible refine gate_dst (N := 5) rfl ?_); refine Kd.N_lit k74 _ 74 ?hg (N' := 5) ?hd (xs := ([] : List (S74))) (inner := []) (ok := (fun k_ => (P0_ k_ ∨ w.heap.size ≤ k_))) (okp := (fun k_ => (P0_ k_ ∨ w.heap.size ≤ k_))) ?hr ?hp (fun _ hk => hk) ((show ∀ k_, w.heap.size ≤ k_ → (fun k_ => (P0_ k_ ∨ w.heap.size ≤ k_)) k_ from fun k_ hk => (.inr (Nat.le_trans (below_size (by repeat (first | (with_reducible first | exact HB.out | apply below_alloc | apply pw_below_drewN | apply below_drew1) | exact HB.out))) hk))) _ (Nat.le_refl _)) (Below.refl _ _) (Nat.le_refl _) (by simp) ?_; (case hd => rfl); (case hg => rfl); (case hr => first | (go_simp; done) | (go_simp; rfl)); (case hp => exact (Reps.none _ _)); intro v128 w3 ho4 hb hg_ hnew_; clear hg_ hnew_; (first | rw [← Ny127.out] at ho4 | (simp only [Int.reduceToNat] at ho4; rw [← Ny127.out] at ho4)); have n0_ := Aside0.mk (Kd.V_elder' (by (with_reducible repeat (first | apply Kd.V_alloc | apply Kd.V_drewN | apply Kd.V_drew)); exact HO0.out) (Kd.N_base ho4) hb); have n1_ := Aside0.mk (Kd.N_lower ho4 (below_size (by repeat (first | (with_reducible first | exact HB.out | apply below_alloc | apply pw_below_drewN | apply below_drew1) | exact HB.out)))); have n2_ := Aside0.mk (below_step (by repeat (first | (with_reducible first | exact HB.out | apply below_alloc | apply pw_below_drewN | apply below_drew1) | exact HB.out)) hb); clear HO0; clear HB; have HO0 := n0_; have HO129 := n1_; have HB := n2_; clear n0_ n1_ n2_; clear hb ho4) | ((with_reducible refine gate_builtin (b := .append) (xs := #[.tmp 5, .tmp 6]) rfl ?_); at_builtin; refine Kd.N_append_rows k74 (w0 := w) w.heap.size rfl (.tmp 5) (.tmp 6) 54 74 (.agg #[(.int .i64 0), (.slice none 0 0), (.slice none 0 0)]) 56 rfl Try.underlying54 info74 rfl (by decide) (by omega) v128 y127 l0 _ _ _ (fun k_ => (P0_ k_ ∨ w.heap.size ≤ k_)) (fun k_ => ((fun k_ => (P0_ k_ ∨ w.heap.size ≤ k_))) k_ ∧ some k_ ≠ (v128 : Value).ownBlock) rfl rfl ?aO ?aR (fun _ hk => hk) ?aF ?aB ?aS ?aL ?_; (case aR => exact (by skip; exact Kd.V_F (Kd.V_mono (ok' := (fun k_ => ((fun k_ => (P0_ k_ ∨ w.heap.size ≤ k_))) k_ ∧ some k_ ≠ (v128 : Value).ownBlock)) (HO0.out) (fun k_ hk => ⟨hk.1, hk.2⟩)))); (case aB => exact (by repeat (first | (with_reducible first | exact HB.out | apply below_alloc | apply pw_below_drewN | apply below_drew1) | exact HB.out))); (case aF => exact (fun k_ hk => (.inr (Nat.le_trans (below_size (by repeat (first | (with_reducible first | exact HB.out | apply below_alloc | apply pw_below_drewN | apply below_drew1) | exact HB.out))) hk)))); (case aO => exact (by (with_reducible repeat (first | apply Kd.N_alloc | apply Kd.N_drewN | apply Kd.N_drew)); exact HO129.out)); (case aS => exact (below_size (by repeat (first | (with_reducible first | exact HB.out | apply below_alloc | apply pw_below_drewN | apply below_drew1) | exact HB.out)))); (case aL => have := LMc2.out; omega); intro v131 w5 ho hb hg hat; rw [← Ny130.out] at ho; have n0_ := Aside0.mk (Kd.V_afterv (ok := (fun k_ => (P0_ k_ ∨ w.heap.size ≤ k_))) (by (with_reducible repeat (first | apply Kd.V_alloc | apply Kd.V_drewN | apply Kd.V_drew)); exact HO0.out) hg hat); have n1_ := Aside0.mk (hb); have n2_ := Aside0.mk (ho); clear HO0; clear HB; clear HO129; have HO0 := n0_; have HB := n1_; have HO132 := n2_; clear n0_ n1_ n2_; clear ho hb hg hat))
    go_ret
    exact ⟨_, by first | rfl | (simp [errW_none, errW_some] <;> rfl) | (simp [*, errW_none, errW_some] <;> rfl), by (with_reducible repeat (first | apply Kd.N_alloc | apply Kd.N_drewN | apply Kd.N_drew)); exact HO132.out, by repeat (first | (with_reducible first | exact HB.out | apply below_alloc | apply pw_below_drewN | apply below_drew1) | exact HB.out)⟩
  · rw [if_neg c2] at H
    exact absurd H (by simp)
def L50_0 : Array Bool := #[false, false, false, false, false, false, false, false]
def L50_1 : Array Bool := #[true, false, false, false, false, false, false, false]
def L50_2 : Array Bool := #[true, false, false, true, false, false, false, false]
def L50_3 : Array Bool := #[true, true, false, true, false, false, false, false]
def L50_4 : Array Bool := #[true, true, false, true, true, false, false, false]
def L50_5 : Array Bool := #[true, true, true, true, true, false, false, false]
def L50_6 : Array Bool := #[true, true, true, true, true, true, false, false]
def L50_7 : Array Bool := #[true, true, true, true, true, true, true, false]
def L50_8 : Array Bool := #[true, true, true, true, true, true, true, true]
def chain_copied.f (l0_0 : List Int) (l0_1 : List Int) : Option (List Int × List Int) := (slices_Clone_int_int.f l0_0).bind fun t135 => ((slices_Clone_int_int.f l0_1).bind fun t138 => (some (t135, t138)))
def chain_copied.T1 : Bool × List (List Nat × List Nat) := (true, [([], []), ([0], [0]), ([1], [1]), ([], []), ([3], [3]), ([4, 2], [4]), ([2, 5], [2, 5]), ([6, 5, 0, 1, 2, 3, 4, 5, 6], [6])])
def chain_copied.B1 : List Nat := [0, 1, 3, 0, 8, 31, 63, 127]
theorem chain_copied.tab1 : rtab .any (opsOf Try.f50 1) = chain_copied.T1 := by kernel_rfl
theorem chain_copied.bits1 : waitsOk chain_copied.T1.2 chain_copied.B1 = true := by kernel_rfl
set_option maxHeartbeats 8000000 in
set_option maxRecDepth 100000 in
theorem chain_copied.calls (A0_0 : Option Addr) (c0_0 : Nat) (l0_0 : List Int) (A0_1 : Option Addr) (c0_1 : Nat) (l0_1 : List Int) (r1 : List Int) (r2 : List Int) (w : World) (hr0_0 : Kd.C (Kd.int .i64) w A0_0 l0_0.length l0_0) (hc0_0 : l0_0.length ≤ c0_0) (hr0_1 : Kd.C (Kd.int .i64) w A0_1 l0_1.length l0_1) (hc0_1 : l0_1.length ≤ c0_1) (h : chain_copied.f l0_0 l0_1 = some (r1, r2)) :
  Calls Try.prog 50 #[.agg #[.slice A0_0 l0_0.length c0_0, .slice A0_1 l0_1.length c0_1]] w fun e w' => ∃ v0_ v1_ : Value, e = .returned (.agg #[v0_, v1_]) ∧ Kd.R (Kd.int .i64) 3 w' w.heap.size (fun k_ => some k_ ≠ (v1_ : Value).ownBlock) v0_ r1 ∧ Kd.R (Kd.int .i64) 3 w' w.heap.size (fun k_ => some k_ ≠ (v0_ : Value).ownBlock) v1_ r2 ∧ Below w.heap.size w w' := by
 have hu37 := Try.underlying37
 have HR0_0 := Aside0.mk hr0_0
 have HC0_0 := Aside0.mk hc0_0
 clear hr0_0 hc0_0
 have HR0_1 := Aside0.mk hr0_1
 have HC0_1 := Aside0.mk hc0_1
 clear hr0_1 hc0_1
 have HB := Aside0.mk (Below.refl w.heap.size w)
 have H : ((slices_Clone_int_int.f l0_0).bind fun t135 => ((slices_Clone_int_int.f l0_1).bind fun t138 => (some (t135, t138)))) = some (r1, r2) := h
 clear h
 replace H := Option.bind_eq_some_iff.mp H
 obtain ⟨t135, A20, H⟩ := H
 replace H : ((slices_Clone_int_int.f l0_1).bind fun t138 => (some (t135, t138))) = some (r1, r2) := H
 have A2 := Aside0.mk A20
 clear A20
 replace H := Option.bind_eq_some_iff.mp H
 obtain ⟨t138, A30, H⟩ := H
 replace H : (some (t135, t138)) = some (r1, r2) := H
 have A3 := Aside0.mk A30
 clear A30
 simp only [Option.some.injEq, Prod.mk.injEq] at H
 obtain ⟨rfl, rfl⟩ := H
 go_enter Try.func50, Try.ntmps50
 try go_wp2_with (first | ((with_reducible refine gate_dst (N := 1) rfl ?_); refine box_event ?hg (N := 1) ?hd (cs := #[.slice A0_0 l0_0.length c0_0, .slice A0_1 l0_1.length c0_1]) (t := 37) ?hr ?_; (case hd => rfl); (case hg => rfl); (case hr => first | (go_simp; done) | (go_simp; rfl)); intro gb133 hg w4 hbox hb; have BK133 := Aside0.mk (hbox); have GW133 := Aside0.mk ((by rw [hg]; exact (below_size (bq0_ HB.out)) : w.heap.size ≤ gb133)); have GE133 := Aside0.mk ((by rw [hg]; exact (below_size (bq0_ HB.out)) : w.heap.size ≤ gb133)); replace HB := Aside0.mk (below_step (bq0_ HB.out) hb); clear hb hbox hg) | ((with_reducible refine gate_dst (N := 2) rfl ?_); refine box_event ?hg (N := 2) ?hd (cs := #[.slice none 0 0, .slice none 0 0]) (t := 37) ?hr ?_; (case hd => rfl); (case hg => rfl); (case hr => first | (go_simp; done) | (go_simp; rfl)); intro gb134 hg w5 hbox hb; have BK134 := Aside0.mk (hbox); have GW134 := Aside0.mk ((by rw [hg]; exact (below_size (bq1_ HB.out GE133.out)) : w.heap.size ≤ gb134)); have GE134 := Aside0.mk ((by rw [hg]; exact (below_size (bq1_ HB.out GE133.out)) : w.heap.size ≤ gb134)); have NB133_134 := Aside0.mk ((by rw [hg]; exact Nat.ne_of_lt (blk_lt (g := gb133) (o := .cells #[.slice A0_0 l0_0.length c0_0, .slice A0_1 l0_1.length c0_1] 37 (0, 0)) (by (with_reducible repeat (first | refine blk_drewN ?_ _ | refine blk_drew ?_ | refine blk_alloc ?_ _)); exact BK133.out)) : gb133 ≠ gb134)); have NB134_133 := Aside0.mk ((by rw [hg]; exact Nat.ne_of_gt (blk_lt (g := gb133) (o := .cells #[.slice A0_0 l0_0.length c0_0, .slice A0_1 l0_1.length c0_1] 37 (0, 0)) (by (with_reducible repeat (first | refine blk_drewN ?_ _ | refine blk_drew ?_ | refine blk_alloc ?_ _)); exact BK133.out)) : gb134 ≠ gb133)); replace BK133 := Aside0.mk (blk_below (g := gb133) (o := .cells #[.slice A0_0 l0_0.length c0_0, .slice A0_1 l0_1.length c0_1] 37 (0, 0)) (by (with_reducible repeat (first | refine blk_drewN ?_ _ | refine blk_drew ?_ | refine blk_alloc ?_ _)); exact BK133.out) hb); replace HB := Aside0.mk (below_step (bq1_ HB.out GE133.out) hb); clear hb hbox hg))
 replace BK133 := Aside0.mk (blk_drew BK133.out)
 replace BK134 := Aside0.mk (blk_drew BK134.out)
 replace HB := Aside0.mk (below_drew1 HB.out)
 refine start_ (n := 8) (S := fun w' => w'.cell? ⟨gb133, 0, none⟩ = some (.slice A0_0 l0_0.length c0_0) ∧ w'.cell? ⟨gb133, 1, none⟩ = some (.slice A0_1 l0_1.length c0_1)) (ds := []) L50_0 (by kernel_rfl) rfl rfl ⟨(blk_cell BK133.out 0).trans rfl, (blk_cell BK133.out 1).trans rfl⟩ (fun hHeld => ?_); refine with_tabW chain_copied.tab1 chain_copied.bits1 (fun HT_ HW_ => ?_)
 generalize w5.drew = w6 at BK133 BK134 HB hHeld ⊢
 refine pu_ 0 (some 3) L50_1 HT_ ?_
 refine pu_ 3 (some 6) L50_2 HT_ ?_
 refine ta_ 1 (some 4) L50_3 HT_ HW_ hHeld ?_ (hy := by rintro w' ⟨s0, s1⟩; go_simp; with_reducible rfl)
 refine ta_ 4 (some 7) L50_4 HT_ HW_ hHeld ?_ (hy := by rintro w' ⟨s0, s1⟩; go_simp; with_reducible rfl)
 refine one_ (i := 2) (N := some 5) L50_5 rfl rfl (one_of HT_.out (by kernel_rfl)) (by decide) (fun K hK => ?_)
 refine goes_ Try.func39 (by kernel_rfl) rfl #[.slice A0_0 l0_0.length c0_0] (by rfl) rfl rfl (by (try simp only [List.map_toArray, List.map_cons, List.map_nil]); first | done | rfl | (simp only [List.length_drop, List.length_take]; rfl)) ?_
 with_reducible refine (slices_Clone_int_int.calls _ _ l0_0 t135 _ ?side1 ?side2 A2.out).mono ?_
 (case side1 => repeat (first | exact (Kd.C_below HR0_0.out HB.out) | (with_reducible refine Kd.C_alloc ?_ _) | (with_reducible refine Kd.C_drewN ?_ _) | (with_reducible refine Kd.C_drew ?_)))
 (case side2 => exact HC0_0.out)
 rintro e w7 ⟨v136, rfl, ho0, hb⟩
 refine ⟨_, rfl, ?_⟩
 have HO137 := Aside0.mk (Kd.R_lower ho0 (below_size (bq2_ HB.out GE133.out GE134.out)))
 replace BK133 := Aside0.mk (blk_below (g := gb133) (o := .cells #[.slice A0_0 l0_0.length c0_0, .slice A0_1 l0_1.length c0_1] 37 (0, 0)) (by (with_reducible repeat (first | refine blk_drewN ?_ _ | refine blk_drew ?_ | refine blk_alloc ?_ _)); exact BK133.out) hb)
 replace BK134 := Aside0.mk (blk_below (g := gb134) (o := .cells #[.slice none 0 0, .slice none 0 0] 37 (0, 0)) (by (with_reducible repeat (first | refine blk_drewN ?_ _ | refine blk_drew ?_ | refine blk_alloc ?_ _)); exact BK134.out) hb)
 replace HB := Aside0.mk (below_step (bq2_ HB.out GE133.out GE134.out) hb)
 (try clear hb)
 (try clear hb2)
 (try clear hk)
 (try clear hi)
 (try clear ho0)
 refine hK.out _ _ ⟨(blk_cell BK133.out 0).trans rfl, (blk_cell BK133.out 1).trans rfl⟩ (fun hHeld => ?_)
 clear hK K
 refine norm_ (a' := ?_) ?_ ?_
 rotate_left
 ·show Act.put _ (some 5) _ = _
  simp only [Act.put, sA_, sB_, sC_, i64_w, i32_w]
  rfl
 refine one_ (i := 5) (N := some 8) L50_6 rfl rfl (one_of HT_.out (by kernel_rfl)) (by decide) (fun K hK => ?_)
 refine goes_ Try.func39 (by kernel_rfl) rfl #[.slice A0_1 l0_1.length c0_1] (by rfl) rfl rfl (by (try simp only [List.map_toArray, List.map_cons, List.map_nil]); first | done | rfl | (simp only [List.length_drop, List.length_take]; rfl)) ?_
 with_reducible refine (slices_Clone_int_int.calls _ _ l0_1 t138 _ ?side1 ?side2 A3.out).mono ?_
 (case side1 => repeat (first | exact (Kd.C_below HR0_1.out HB.out) | (with_reducible refine Kd.C_alloc ?_ _) | (with_reducible refine Kd.C_drewN ?_ _) | (with_reducible refine Kd.C_drew ?_)))
 (case side2 => exact HC0_1.out)
 rintro e w8 ⟨v139, rfl, ho0, hb⟩
 refine ⟨_, rfl, ?_⟩
 have HO140 := Aside0.mk (Kd.R_lower (Kd.R_new' ho0 (Kd.R_lt (mvR_ HO137.out))) (below_size (bq2_ HB.out GE133.out GE134.out)))
 replace HO137 := Aside0.mk (Kd.R_elder' (mvR_ HO137.out) (Kd.R_base ho0) hb)
 replace BK133 := Aside0.mk (blk_below (g := gb133) (o := .cells #[.slice A0_0 l0_0.length c0_0, .slice A0_1 l0_1.length c0_1] 37 (0, 0)) (by (with_reducible repeat (first | refine blk_drewN ?_ _ | refine blk_drew ?_ | refine blk_alloc ?_ _)); exact BK133.out) hb)
 replace BK134 := Aside0.mk (blk_below (g := gb134) (o := .cells #[.slice none 0 0, .slice none 0 0] 37 (0, 0)) (by (with_reducible repeat (first | refine blk_drewN ?_ _ | refine blk_drew ?_ | refine blk_alloc ?_ _)); exact BK134.out) hb)
 replace HB := Aside0.mk (below_step (bq2_ HB.out GE133.out GE134.out) hb)
 (try clear hb)
 (try clear hb2)
 (try clear hk)
 (try clear hi)
 (try clear ho0)
 obtain ⟨Ao9, co9, eo9⟩ := Kd.R_slice HO140.out
 (first | subst eo9 | (injection eo9 with f1_ f2_ f3_; have f4_ := f1_.symm; have f5_ := f3_.symm; clear f1_ f2_ f3_; subst f4_; subst f5_))
 obtain ⟨Ao10, co10, eo10⟩ := Kd.R_slice HO137.out
 (first | subst eo10 | (injection eo10 with f1_ f2_ f3_; have f4_ := f1_.symm; have f5_ := f3_.symm; clear f1_ f2_ f3_; subst f4_; subst f5_))
 refine hK.out _ _ ⟨(blk_cell BK133.out 0).trans rfl, (blk_cell BK133.out 1).trans rfl⟩ (fun hHeld => ?_)
 clear hK K
 refine norm_ (a' := ?_) ?_ ?_
 rotate_left
 ·show Act.put _ (some 8) _ = _
  simp only [Act.put, sA_, sB_, sC_, i64_w, i32_w]
  rfl
 refine pu_ 6 (some 9) L50_7 HT_ ?_
 refine one_ (i := 7) (N := none) L50_8 rfl rfl (one_of HT_.out (by kernel_rfl)) (by decide) (fun K hK => ?_)
 have hs11 : w8.cell? ⟨gb134, 0, none⟩ = some (.slice none 0 0) := (blk_cell BK134.out 0).trans rfl
 have hfs11 := blk_frozen BK134.out 0
 have hns11_0 := NB133_134.out
 have hms11_0 := NB134_133.out
 have hs12 : w8.cell? ⟨gb134, 1, none⟩ = some (.slice none 0 0) := (blk_cell BK134.out 1).trans rfl
 have hfs12 := blk_frozen BK134.out 1
 have hns12_0 := NB133_134.out
 have hms12_0 := NB134_133.out
 refine skip_ (w1 := ?_) (by rfl) rfl ?_ ?_
 rotate_left
 ·go_simp
  rfl
 refine hK.out _ _ ⟨((cell_far (p := ⟨gb134, _, none⟩) NB133_134.out _).trans (((cell_far (p := ⟨gb134, _, none⟩) NB133_134.out _).trans (hHeld.1)))), ((cell_far (p := ⟨gb134, _, none⟩) NB133_134.out _).trans (((cell_far (p := ⟨gb134, _, none⟩) NB133_134.out _).trans (hHeld.2))))⟩ (fun hHeld => ?_)
 clear hK K
 refine done_ (done_of HT_.out (by kernel_rfl)) ?_
 try go_wp2
 refine bodyPost_ret (results_cell_row rfl _ _ gb134 37 #[.slice Ao10 t135.length co10, .slice Ao9 t138.length co9] (0, 0) _ rfl (by (with_reducible repeat (first | refine blk_drewN ?_ _ | refine blk_drew ?_ | refine blk_alloc ?_ _)); refine blk_put (cs := #[.slice Ao10 t135.length co10, .slice none 0 0]) ?_ 1 _ rfl; (with_reducible repeat (first | refine blk_drewN ?_ _ | refine blk_drew ?_ | refine blk_alloc ?_ _)); refine blk_put (cs := #[.slice none 0 0, .slice none 0 0]) ?_ 0 _ rfl; (with_reducible repeat (first | refine blk_drewN ?_ _ | refine blk_drew ?_ | refine blk_alloc ?_ _)); exact BK134.out) Try.underlying37 rfl (by kernel_rfl)) rfl ?_
 exact ⟨_, _, by first | rfl | (simp <;> rfl) | (simp [*] <;> rfl), by (with_reducible repeat (first | apply Kd.R_alloc | apply Kd.R_drewN | apply Kd.R_drew)); exact Kd.R_mono (Kd.R_far (p := ⟨gb134, 1, none⟩) (Kd.R_far (p := ⟨gb134, 0, none⟩) (Kd.R_types HO137.out BK134.out (by decide)) (fun _ hk => hk.2) (.slice Ao10 t135.length co10)) (fun _ hk => hk.2) (.slice Ao9 t138.length co9)) (fun _ hk => hk.1.2), by (with_reducible repeat (first | apply Kd.R_alloc | apply Kd.R_drewN | apply Kd.R_drew)); exact Kd.R_mono (Kd.R_far (p := ⟨gb134, 1, none⟩) (Kd.R_far (p := ⟨gb134, 0, none⟩) (Kd.R_types HO140.out BK134.out (by decide)) (fun _ hk => hk.2) (.slice Ao10 t135.length co10)) (fun _ hk => hk.2) (.slice Ao9 t138.length co9)) (fun _ hk => hk.1.2), bq2_ HB.out GE133.out GE134.out⟩
end Go.Proofs.Ytmolbbebglfhmaa.A
