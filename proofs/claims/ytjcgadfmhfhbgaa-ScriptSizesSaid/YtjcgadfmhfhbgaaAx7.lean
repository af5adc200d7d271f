/- Lean functions that answer as the Go functions do, and the proofs that they do; no conditions. Written by this session's own driver: a scratch copy of the kit's print with the session's additions (wip/xprint). -/
import Derived.Test.YtjcgadfmhfhbgaaAx0
import Derived.Test.YtjcgadfmhfhbgaaAx3
import Derived.Test.YtjcgadfmhfhbgaaAx4
import Derived.Test.YtjcgadfmhfhbgaaAx6
namespace Go.Proofs.Ytjcgadfmhfhbgaa.A
open Go.RowKit Go.Proofs.YtjcgadfmhfhbgaaW.PrintWords Go.Proofs.YtjcgadfmhfhbgaaW.PrintLast Go.Proofs.YtjcgadfmhfhbgaaW.PrintMore
attribute [local go_sem] max2_int min2_int max_two min_two max_three min_three max_four min_four
set_option linter.unusedVariables false
set_option linter.unusedSimpArgs false
structure But (S : Nat → Prop) (w w' : World) : Prop where
 os : w'.os = w.os
 tape : w'.tape = w.tape
 output : w'.output = w.output
 size : w.heap.size ≤ w'.heap.size
 block : ∀ k, k < w.heap.size → ¬ S k → w'.heap[k]? = w.heap[k]?
theorem But.refl (S : Nat → Prop) (w : World) : But S w w := ⟨rfl, rfl, rfl, Nat.le_refl _, fun _ _ _ => rfl⟩
theorem But.trans {S : Nat → Prop} {a b c : World} (h : But S a b) (k : But S b c) : But S a c :=
 ⟨k.os.trans h.os, k.tape.trans h.tape, k.output.trans h.output, Nat.le_trans h.size k.size, fun j hj hn => (k.block j (Nat.lt_of_lt_of_le hj h.size) hn).trans (h.block j hj hn)⟩
theorem But.of {S : Nat → Prop} {w w' : World} (h : Below w.heap.size w w') : But S w w' := ⟨h.os, h.tape, h.output, h.size, fun k hk _ => h.block k hk⟩
theorem But.set {S : Nat → Prop} {w w' : World} (h : But S w w') {p : Addr} (hp : S p.block ∨ w.heap.size ≤ p.block) (u : Value) : But S w (w'.setCell p u) :=
 have hb := (Below.refl 0 w').setCell (p := p) (Nat.zero_le _) u
 ⟨hb.os.trans h.os, hb.tape.trans h.tape, hb.output.trans h.output, Nat.le_trans h.size hb.size, fun k hk hn => (Below.heap_setCell w' p u k (fun e => by rcases hp with hp | hp; exact hn (e ▸ hp); omega)).trans (h.block k hk hn)⟩
theorem But.cell (w : World) (B j : Nat) (u : Value) : But (fun k => k = B) w (w.setCell ⟨B, j, none⟩ u) := (But.refl (fun k => k = B) w).set (p := ⟨B, j, none⟩) (Or.inl rfl) u
theorem But.mono {S T : Nat → Prop} {w w' : World} (h : But S w w') (hS : ∀ k, S k → T k) : But T w w' := ⟨h.os, h.tape, h.output, h.size, fun k hk hn => h.block k hk (fun hs => hn (hS k hs))⟩
theorem But.over {S : Nat → Prop} {w W W1 : World} (h : But S w W) (hb : Below w.heap.size W W1) : But S w W1 := ⟨hb.os.trans h.os, hb.tape.trans h.tape, hb.output.trans h.output, Nat.le_trans h.size hb.size, fun k hk hn => (hb.block k hk).trans (h.block k hk hn)⟩
theorem But.below {S : Nat → Prop} {w w' : World} (h : But S w w') {B : Nat} (hB : B ≤ w.heap.size) (hS : ∀ k, S k → B ≤ k) : Below B w w' := ⟨h.os, h.tape, h.output, h.size, fun k hk => h.block k (Nat.lt_of_lt_of_le hk hB) (fun hs => by have := hS k hs; omega)⟩
theorem R_but {α : Type} {d : Kd α} {e base : Nat} {ok S : Nat → Prop} {w w1 : World} {v : Value} {xs : List α} (h : d.R e w base ok v xs) (hb : But S w w1) (hok : ∀ k, ok k → ¬ S k) : d.R e w1 base ok v xs := Kd.R_step h (fun k ho hk => hb.block k hk (hok k ho))
theorem wrap_is (z : Int) (h0 : -9223372036854775808 ≤ z) (h1 : z ≤ 9223372036854775807) : wrap64 z = z := by unfold wrap64; omega
theorem int_next (i : Nat) (h : i < 9223372036854775807) : Value.int .i64 (wrap64 ((i : Int) + 1)) = Value.int .i64 ((i + 1 : Nat) : Int) := by rw [wrap_is _ (by omega) (by omega)]; rfl
theorem But.under {w0 w W : World} {B : Nat} (h : But (fun k => k = B) w W) (hb : Below w0.heap.size w0 w) (hB : w0.heap.size ≤ B) : Below w0.heap.size w0 W :=
 ⟨h.os.trans hb.os, h.tape.trans hb.tape, h.output.trans hb.output, Nat.le_trans hb.size h.size, fun k hk => (h.block k (Nat.lt_of_lt_of_le hk hb.size) (fun e => by omega)).trans (hb.block k hk)⟩
structure PenS (w : World) (base B : Nat) (l : List Int) (v : Value) : Prop where
 blk : w.heap[B]? = some (.cells #[v] 54 (0, 0))
 row : Kd.R (Kd.int .u8) 5 w base (fun k => ¬ k = B) v l
theorem PenS.next {w w1 : World} {base B : Nat} {l : List Int} {v : Value} (h : PenS w base B l v) (hb : Below w.heap.size w w1) : PenS w1 base B l v := ⟨blk_below h.blk hb, Kd.R_below h.row hb⟩
theorem PenS.lower {w : World} {base base' B : Nat} {l : List Int} {v : Value} (h : PenS w base' B l v) (hb : base ≤ base') : PenS w base B l v := ⟨h.blk, Kd.R_lower h.row hb⟩
theorem PenS.put {w : World} {base base' B b0 : Nat} {l r : List Int} {v v1 : Value} {w1 : World} {ok : Nat → Prop} (h : PenS w base B l v) (hb : Below w.heap.size w w1) (hR : Kd.R (Kd.int .u8) 5 w1 w.heap.size ok v1 r) (hB : base' ≤ w.heap.size) : But (fun k => k = B) w (w1.setCell ⟨B, 0, none⟩ v1) ∧ PenS (w1.setCell ⟨B, 0, none⟩ v1) base' B r v1 :=
 have hl := blk_lt h.blk
 ⟨(But.of (S := fun k => k = B) hb).set (p := ⟨B, 0, none⟩) (Or.inl rfl) _, blk_put (blk_below h.blk hb) 0 _ rfl,
  Kd.R_mono (Kd.R_far (Kd.R_lower (Kd.R_bound hR) hB) (p := ⟨B, 0, none⟩) (fun k hk e => by have := hk.2.1; simp only at e; omega) _) (fun k hk e => by have := hk.2.1; omega)⟩
def penPut : List Int → Int → List Int → Option (List Int)
 | l, _, [] => some l
 | l, size, n :: r => (pack_Put.f l n size).bind fun p => penPut p.1 size r
theorem penPut_drop (l : List Int) (size : Int) (xs : List Int) (i : Nat) (h : i < xs.length) : penPut l size (xs.drop i) = (pack_Put.f l xs[i] size).bind fun p => penPut p.1 size (xs.drop (i + 1)) := by
 rw [List.drop_eq_getElem_cons h]; rfl
set_option maxHeartbeats 8000000 in
set_option maxRecDepth 100000 in
theorem pen_put.calls (base b1 B : Nat) (l r args : List Int) (size : Int) (v : Value) (A : Option Addr) (c : Nat) (w : World) (hB : base ≤ w.heap.size) (hP : PenS w base B l v) (hA : Kd.R (Kd.int .i64) 3 w b1 (fun k => ¬ k = B) (.slice A args.length c) args) (hne : args ≠ []) (h : penPut l size args = some r) :
  Calls Try.prog 42 #[.pointer (some ⟨B, 0, none⟩), .int .i64 size, .slice A args.length c] w fun e w' => e = .returned (.tuple #[]) ∧ But (fun k => k = B) w w' ∧ ∃ v', PenS w' w.heap.size B r v' := by
 have HNE := Aside0.mk hne
 clear hne
 have HB := Aside0.mk hB
 have HA := Aside0.mk hA
 have HI : Aside0 (PenS w base B l v) := ⟨hP⟩
 have HH : Aside0 (penPut l size (args.drop 0) = some r) := ⟨h⟩
 clear hB hP hA h
 go_enter Try.func42, Try.ntmps42
 go_wp2_with fail
 go_loopg [7, 10] (args.length + 1) (fun gg s7 s10 wr => ∃ (i : Nat) (l1 : List Int) (v1 : Value), s10 = .int .i64 (i : Int) ∧ Aside0 (i ≤ args.length ∧ args.length - i < gg) ∧ Aside0 (But (fun k => k = B) w wr) ∧ Aside0 (PenS wr (if i = 0 then base else w.heap.size) B l1 v1) ∧ Aside0 (penPut l1 size (args.drop i) = some r))
 case atStart => exact ⟨0, l, v, rfl, ⟨by omega, by omega⟩, ⟨But.refl _ _⟩, HI, HH⟩
 case round =>
  clear HI HH
  obtain ⟨i, l1, v1, rfl, HM, HW, HI, HH⟩ := hrel
  obtain ⟨hi1, hi2⟩ := HM.out
  by_cases hlt : i < args.length
  ·have hC := (Kd.R_reads' (R_but HA.out HW.out (fun _ hk => hk))).2.2
   obtain ⟨ad, he, hx⟩ := Kd.at_int hC (i : Int) (by omega) (by omega)
   cases he
   rw [Int.toNat_natCast] at hx
   have hb0 : decide ((i : Int) < (args.length : Int)) = true := decide_eq_true (by omega)
   have hb1 : decide (i < args.length) = true := decide_eq_true hlt
   have hrd : rd args (i : Int) = args[i] := by unfold rd; simp [List.getD_eq_getElem?_getD, hlt]
   rw [hrd] at hx
   have hH := HH.out
   rw [penPut_drop _ _ _ _ hlt] at hH
   obtain ⟨⟨l2, e2⟩, hp, hH⟩ := Option.bind_eq_some_iff.mp hH
   obtain ⟨n, hn⟩ : ∃ n, n = args[i] := ⟨_, rfl⟩
   rw [← hn] at hx hp
   obtain ⟨A1, c1, rfl⟩ := Kd.R_slice HI.out.row
   have z0 : wr.cell? ⟨B, 0, none⟩ = some (.slice A1 l1.length c1) := (blk_cell HI.out.blk 0).trans rfl
   have HP := Aside0.mk hp
   have HR := Aside0.mk (Kd.R_reads' HI.out.row)
   have HH2 : Aside0 (penPut l2 size (args.drop (i + 1)) = some r) := ⟨hH⟩
   have HLT := Aside0.mk hlt
   have HBIG := Aside0.mk hC.2.1
   clear hp hH hn hC hrd
   go_wp2_with fail
   refine (pack_Put.calls A1 c1 l1 n size l2 e2 _ HR.out.2.2 HR.out.2.1 HP.out).mono ?_
   rintro e w2 ⟨v2, rfl, hR2, hb2⟩
   obtain ⟨A2, c2, rfl⟩ := Kd.R_slice hR2
   have HX := Aside0.mk (HI.out.put (b0 := 0) (base' := w.heap.size) hb2 hR2 HW.out.size)
   have y0 : w2.cell? ⟨B, 0, none⟩ = some (.slice A1 l1.length c1) := (blk_cell (blk_below HI.out.blk hb2) 0).trans rfl
   have y1 := blk_frozen (blk_below HI.out.blk hb2) 0
   clear hR2 hb2 z0
   go_wp2_with fail
   go_roundg (args.length - i)
   case measure => have := HM.out; have := HLT.out; omega
   case rel => exact ⟨i + 1, l2, _, int_next _ (by have := HBIG.out; have := HLT.out; omega), ⟨by have := HLT.out; omega, by have := HLT.out; omega⟩, ⟨HW.out.trans HX.out.1⟩, ⟨HX.out.2⟩, HH2⟩
  ·have hb0 : decide ((i : Int) < (args.length : Int)) = false := decide_eq_false (by omega)
   have hb1 : decide (i < args.length) = false := decide_eq_false hlt
   have hH := HH.out
   rw [List.drop_of_length_le (by omega)] at hH
   have HH2 := Aside0.mk (Option.some.inj hH)
   have HHL := Aside0.mk hlt
   clear hH hlt
   go_wp2_with fail
   go_end0
   have hi : i ≠ 0 := by
    have := HM.out
    have := HHL.out
    have := List.length_pos_iff.mpr HNE.out
    omega
   have hp := HI.out
   rw [if_neg hi] at hp
   exact ⟨rfl, HW.out, v1, HH2.out ▸ hp⟩
def penCmd (k : Nat) (l : List Int) (x : S30) : Option (List Int) :=
 (penPut l 1 [x.f0]).bind fun l1 => (if 2 ≤ x.f0 ∧ x.f0 ≤ 5 then penPut l1 1 [x.f1] else some l1).bind fun l2 =>
  if x.f0 = 2 then (wire_Write.f k x.f2).bind fun g => (penPut l2 2 [(g.1.length : Int)]).bind fun l3 =>
   if l3.length + g.1.length ≤ 140737488355328 then (script_empty.f x.f3.f0 x.f3.f1).bind fun b => if b = true then penPut (l3 ++ g.1) 1 [0] else (penPut (l3 ++ g.1) 1 [1]).bind fun l5 => (image_Put.f k l5 x.f3.f0 x.f3.f1).map fun t => t.1 else none
  else if x.f0 = 3 then (penPut l2 1 [x.f4.f0]).bind fun l3 => (penPut l3 8 [x.f4.f1, x.f4.f2, x.f4.f3]).bind fun l4 => penPut l4 1 [x.f5]
  else if x.f0 = 8 then penPut l2 1 [x.f6]
  else some l2
theorem LeO.map {α β : Type} {a a' : Option α} (f : α → β) (h : LeO a a') : LeO (a.map f) (a'.map f) := by
 intro r hr
 obtain ⟨x, hx, e⟩ := Option.map_eq_some_iff.mp hr
 exact Option.map_eq_some_iff.mpr ⟨x, h x hx, e⟩
theorem penCmd_mono (k : Nat) (l : List Int) (x : S30) : LeO (penCmd k l x) (penCmd (k + 1) l x) := by
 unfold penCmd
 exact LeO.bind (LeO.refl _) fun l1 => LeO.bind (LeO.refl _) fun l2 => LeO.ite (LeO.bind (wire_Write.mono _ _) fun g => LeO.bind (LeO.refl _) fun l3 => LeO.ite (LeO.bind (LeO.refl _) fun b => LeO.ite (LeO.refl _) (LeO.bind (LeO.refl _) fun l5 => LeO.map _ (image_Put.mono _ _ _ _))) (LeO.refl _)) (LeO.refl _)
structure PcI (w W : World) (B base : Nat) (l : List Int) (cs : Array Value) (v : Value) : Prop where
 pen : PenS W base B l v
 cmd : W.heap[w.heap.size]? = some (.cells cs 30 (0, 0))
 but : But (fun k => k = B) w W
 base : base ≤ w.heap.size
 lt : B < w.heap.size
theorem PcI.start {w : World} {B base : Nat} {l : List Int} {v : Value} (h : PenS w base B l v) (hb : base ≤ w.heap.size) (cs : Array Value) : PcI w (w.alloc (.cells cs 30)) B base l cs v :=
 ⟨h.next (below_alloc (Below.refl _ _) _), blk_new _ _, But.of (below_alloc (Below.refl _ _) _), hb, blk_lt h.blk⟩
theorem PcI.below {w W W1 : World} {B base : Nat} {l : List Int} {cs : Array Value} {v : Value} (h : PcI w W B base l cs v) (hb : Below W.heap.size W W1) : PcI w W1 B base l cs v :=
 ⟨h.pen.next hb, blk_below h.cmd hb, h.but.trans (But.of hb), h.base, h.lt⟩
theorem PcI.next {w W W1 : World} {B base b1 : Nat} {l l1 : List Int} {cs : Array Value} {v v1 : Value} (h : PcI w W B base l cs v) (hb : But (fun k => k = B) W W1) (hp : PenS W1 b1 B l1 v1) (h1 : b1 ≤ w.heap.size) : PcI w W1 B b1 l1 cs v1 :=
 ⟨hp, (hb.block _ (blk_lt h.cmd) (fun e => by have := h.lt; omega)).trans h.cmd, h.but.trans hb, h1, h.lt⟩
theorem PcI.size {w W : World} {B base : Nat} {l : List Int} {cs : Array Value} {v : Value} (h : PcI w W B base l cs v) : base ≤ W.heap.size := Nat.le_trans h.base h.but.size
theorem PcI.put {w W : World} {B base : Nat} {l l1 : List Int} {cs : Array Value} {v : Value} (h : PcI w W B base l cs v) (size : Int) (ns : List Int) (hn : ns.length ≤ 100 ∧ ns ≠ []) (hp : penPut l size ns = some l1) :
  Calls Try.prog 42 #[.pointer (some ⟨B, 0, none⟩), .int .i64 size, .slice (some ⟨W.heap.size, 0, none⟩) ns.length ns.length] (W.alloc (.cells (encs (fun n => Value.int .i64 n) ns).toArray 3)) fun e w' => e = .returned (.tuple #[]) ∧ ∃ v', PcI w w' B w.heap.size l1 cs v' ∧ But (fun k => k = B) W w' := by
 have hB : B < W.heap.size := blk_lt h.pen.blk
 have hI := h.below (below_alloc (Below.refl _ _) (.cells (encs (fun n => Value.int .i64 n) ns).toArray 3))
 refine (pen_put.calls base W.heap.size B l l1 ns size v _ _ _ hI.size hI.pen (Kd.R_mono (lit_row W ns hn.1) (fun k hk e => by omega)) hn.2 hp).mono ?_
 rintro e w' ⟨rfl, hb, v', hP⟩
 have hw := h.but.size
 have ha := (below_alloc (Below.refl W.heap.size W) (.cells (encs (fun n => Value.int .i64 n) ns).toArray 3))
 exact ⟨rfl, v', hI.next hb (hP.lower (Nat.le_trans hw ha.size)) (Nat.le_refl _), (But.of ha).trans hb⟩
theorem PcI.cells {w W : World} {B base : Nat} {l : List Int} {v : Value} {x0 x1 x2 x3 x4 x5 x6 x7 x8 x9 x10 : Value} (h : PcI w W B base l #[x0, x1, x2, x3, x4, x5, x6, x7, x8, x9, x10] v) :
  W.cell? ⟨w.heap.size, 0, none⟩ = some x0 ∧ W.cell? ⟨w.heap.size, 1, none⟩ = some x1 ∧ W.cell? ⟨w.heap.size, 2, none⟩ = some x2 ∧ W.cell? ⟨w.heap.size, 3, none⟩ = some x3 ∧ W.cell? ⟨w.heap.size, 4, none⟩ = some x4 ∧ W.cell? ⟨w.heap.size, 5, none⟩ = some x5 ∧ W.cell? ⟨w.heap.size, 6, none⟩ = some x6 ∧ W.cell? ⟨w.heap.size, 7, none⟩ = some x7 ∧ W.cell? ⟨w.heap.size, 8, none⟩ = some x8 ∧ W.cell? ⟨w.heap.size, 9, none⟩ = some x9 ∧ W.cell? ⟨w.heap.size, 10, none⟩ = some x10 :=
 have hc := fun j => blk_cell h.cmd j
 ⟨(hc 0).trans rfl, (hc 1).trans rfl, (hc 2).trans rfl, (hc 3).trans rfl, (hc 4).trans rfl, (hc 5).trans rfl, (hc 6).trans rfl, (hc 7).trans rfl, (hc 8).trans rfl, (hc 9).trans rfl, (hc 10).trans rfl⟩
theorem PcI.row {w W W1 : World} {B : Nat} {l l1 : List Int} {cs : Array Value} {v v1 : Value} (h : PcI w W B w.heap.size l cs v) (hb : Below w.heap.size W W1) (hk : W1.heap[B]? = some (.cells #[v] 54 (0, 0))) (hc : W1.heap[w.heap.size]? = some (.cells cs 30 (0, 0))) (hr : Kd.R (Kd.int .u8) 5 W1 w.heap.size (fun k => ¬ k = B) v1 l1) : PcI w (W1.setCell ⟨B, 0, none⟩ v1) B w.heap.size l1 cs v1 :=
 have hlt := h.lt
 ⟨⟨blk_put hk 0 _ rfl, Kd.R_far hr (p := ⟨B, 0, none⟩) (fun k hk => hk) _⟩, (Below.heap_setCell W1 ⟨B, 0, none⟩ v1 w.heap.size (fun e => by simp only at e; omega)).trans hc, (h.but.over hb).trans (But.cell _ _ _ _), Nat.le_refl _, hlt⟩
theorem R_stay_pen {α : Type} {d : Kd α} {e base B : Nat} {ok : Nat → Prop} {w w1 : World} {l : List Int} {v u : Value} {xs : List α} (h : d.R e w1 w.heap.size ok u xs) (hP : PenS w base B l v) : d.R e w1 w.heap.size (fun k => ¬ k = B) u xs :=
 Kd.R_mono (Kd.R_bound h) (fun k hk e => by have := hk.2.1; have := blk_lt hP.blk; omega)
theorem PcI.put1 {w W : World} {B base : Nat} {l l1 : List Int} {cs : Array Value} {v : Value} (h : PcI w W B base l cs v) (size n : Int) (hp : penPut l size [n] = some l1) :
  Calls Try.prog 42 #[.pointer (some ⟨B, 0, none⟩), .int .i64 size, .slice (some ⟨W.heap.size, 0, none⟩) 1 1] (W.alloc (.cells #[.int .i64 n] 3)) fun e w' => e = .returned (.tuple #[]) ∧ ∃ v', PcI w w' B w.heap.size l1 cs v' ∧ But (fun k => k = B) W w' := h.put size [n] ⟨by simp, by simp⟩ hp
theorem PcI.put3 {w W : World} {B base : Nat} {l l1 : List Int} {cs : Array Value} {v : Value} (h : PcI w W B base l cs v) (size n m o : Int) (hp : penPut l size [n, m, o] = some l1) :
  Calls Try.prog 42 #[.pointer (some ⟨B, 0, none⟩), .int .i64 size, .slice (some ⟨W.heap.size, 0, none⟩) 3 3] (W.alloc (.cells #[.int .i64 n, .int .i64 m, .int .i64 o] 3)) fun e w' => e = .returned (.tuple #[]) ∧ ∃ v', PcI w w' B w.heap.size l1 cs v' ∧ But (fun k => k = B) W w' := h.put size [n, m, o] ⟨by simp, by simp⟩ hp
set_option maxHeartbeats 8000000 in
set_option maxRecDepth 100000 in
theorem pen_cmd.calls (k : Nat) (B base : Nat) (l r : List Int) (v : Value) (x : S30) (A2 : Option Addr) (c2 : Nat) (A3 : Option Addr) (c3 : Nat) (A4 : Option Addr) (c4 : Nat) (w : World) (hbase : base ≤ w.heap.size) (hP : PenS w base B l v)
  (h2 : x.f2.length ≤ c2 ∧ ∀ W, But (fun k => k = B) w W → Kd.C k48 W A2 x.f2.length x.f2) (h3 : x.f3.f0.length ≤ c3 ∧ ∀ W, But (fun k => k = B) w W → Kd.C (Kd.int .i64) W A3 x.f3.f0.length x.f3.f0) (h4 : x.f3.f1.length ≤ c4 ∧ ∀ W, But (fun k => k = B) w W → Kd.C (Kd.int .i64) W A4 x.f3.f1.length x.f3.f1)
  (h : penCmd k l x = some r) :
  Calls Try.prog 23 #[.pointer (some ⟨B, 0, none⟩), .agg #[.int .i64 x.f0, .int .i64 x.f1, .slice A2 x.f2.length c2, .slice A3 x.f3.f0.length c3, .slice A4 x.f3.f1.length c4, .int .i64 x.f4.f0, .int .i64 x.f4.f1, .int .i64 x.f4.f2, .int .i64 x.f4.f3, .int .i64 x.f5, .int .i64 x.f6]] w fun e w' => e = .returned (.tuple #[]) ∧ But (fun k => k = B) w w' ∧ ∃ v', PenS w' base B r v' := by
 unfold penCmd at h
 obtain ⟨l1, hp1, h⟩ := Option.bind_eq_some_iff.mp h
 obtain ⟨l2, hp2, h⟩ := Option.bind_eq_some_iff.mp h
 have HI := Aside0.mk (PcI.start hP hbase #[.int .i64 x.f0, .int .i64 x.f1, .slice A2 x.f2.length c2, .slice A3 x.f3.f0.length c3, .slice A4 x.f3.f1.length c4, .int .i64 x.f4.f0, .int .i64 x.f4.f1, .int .i64 x.f4.f2, .int .i64 x.f4.f3, .int .i64 x.f5, .int .i64 x.f6])
 have HP1 := Aside0.mk hp1
 have HP2 := Aside0.mk hp2
 have HF := Aside0.mk h
 have H2 := Aside0.mk h2
 have H3 := Aside0.mk h3
 have H4 := Aside0.mk h4
 have HBS := Aside0.mk hbase
 clear h hp1 hp2 hP hbase h2 h3 h4
 go_enter Try.func23, Try.ntmps23
 go_upto_region 1 with fail
 generalize w.alloc _ = W0 at HI ⊢
 obtain ⟨z0, z1, z2, z3, z4, z5, z6, z7, z8, z9, z10⟩ := HI.out.cells
 go_wp2_with fail
 refine (HI.out.put1 1 x.f0 HP1.out).mono ?_
 rintro e w1 ⟨rfl, v1, h_, hb_⟩
 have HI1 := Aside0.mk h_
 clear h_ hb_ z0 z1 z2 z3 z4 z5 z6 z7 z8 z9 z10 HI HP1
 obtain ⟨z0, z1, z2, z3, z4, z5, z6, z7, z8, z9, z10⟩ := HI1.out.cells
 by_cases hr : 2 ≤ x.f0 ∧ x.f0 ≤ 5
 ·have d1 : decide (2 ≤ x.f0) = true := decide_eq_true hr.1
  have d2 : decide (x.f0 ≤ 5) = true := decide_eq_true hr.2
  have hp2 := HP2.out
  rw [if_pos hr] at hp2
  have HP3 := Aside0.mk hp2
  clear hp2 HP2
  go_wp2_with fail
  refine (HI1.out.put1 1 x.f1 HP3.out).mono ?_
  rintro e w2 ⟨rfl, v2, h_, hb_⟩
  have HI2 := Aside0.mk h_
  clear h_ hb_ z0 z1 z2 z3 z4 z5 z6 z7 z8 z9 z10 HI1 HP3
  obtain ⟨z0, z1, z2, z3, z4, z5, z6, z7, z8, z9, z10⟩ := HI2.out.cells
  by_cases h2 : x.f0 = 2
  ·have e2 : (x.f0 == 2) = true := beq_iff_eq.mpr h2
   have hF := HF.out
   rw [if_pos h2] at hF
   obtain ⟨⟨g, ge⟩, hg, hF⟩ := Option.bind_eq_some_iff.mp hF
   obtain ⟨l3, hp3, hF⟩ := Option.bind_eq_some_iff.mp hF
   have HG := Aside0.mk hg
   have HP4 := Aside0.mk hp3
   have HFF := Aside0.mk hF
   clear hg hp3 hF HF hr h2
   go_wp2_with fail
   refine (wire_Write.calls k A2 c2 x.f2 g ge _ (H2.out.2 _ HI2.out.but) H2.out.1 HG.out).mono ?_
   rintro e w3 ⟨vw, rfl, hRw, hbw⟩
   obtain ⟨Aw, cw, rfl⟩ := Kd.R_slice hRw
   have HI3 := Aside0.mk (HI2.out.below hbw)
   have HRW := Aside0.mk (R_stay_pen hRw HI2.out.pen)
   clear hRw hbw z0 z1 z2 z3 z4 z5 z6 z7 z8 z9 z10 HI2 HG
   obtain ⟨z0, z1, z2, z3, z4, z5, z6, z7, z8, z9, z10⟩ := HI3.out.cells
   go_wp2_with fail
   refine (HI3.out.put1 2 (g.length : Int) HP4.out).mono ?_
   rintro e w4 ⟨rfl, v4, h_, hb_⟩
   have HI4 := Aside0.mk h_
   have HR4 := Aside0.mk (R_but HRW.out hb_ (fun _ hk => hk))
   obtain ⟨A4_, c4_, rfl⟩ := Kd.R_slice h_.pen.row
   have y0 : w4.cell? ⟨B, 0, none⟩ = some (.slice A4_ l3.length c4_) := (blk_cell h_.pen.blk 0).trans rfl
   have hF := HFF.out
   have hlen : l3.length + g.length ≤ 140737488355328 := by
    by_cases hl : l3.length + g.length ≤ 140737488355328
    ·exact hl
    ·rw [if_neg hl] at hF; cases hF
   rw [if_pos hlen] at hF
   obtain ⟨b, hb, hF⟩ := Option.bind_eq_some_iff.mp hF
   have HL4 := Aside0.mk hlen
   have HEM := Aside0.mk hb
   have HF4 := Aside0.mk hF
   clear h_ hb_ hlen hb hF HFF HI3 HRW HP4 z0 z1 z2 z3 z4 z5 z6 z7 z8 z9 z10
   go_upto_region 9 with ((with_reducible refine gate_builtin (b := .append) (xs := #[.tmp 43, .tmp 44]) rfl ?_); at_builtin; refine Kd.R_append_rows (Kd.int .u8) (w0 := w4) w.heap.size rfl (.tmp 43) (.tmp 44) 31 5 (.int .u8 0) 1 rfl Try.underlying31 info5 rfl (by decide) (by omega) (.slice A4_ l3.length c4_) l3 g _ _ _ (fun k_ => ¬ k_ = B) (fun _ => False) rfl rfl HI4.out.pen.row (Kd.R_reads' HR4.out).2.2 (fun _ _ h => h) (fun _ h => h.elim) ?aF (Below.refl _ _) HI4.out.but.size ?aL ?_; (case aF => exact fun k hk e => by have := blk_lt HI4.out.pen.blk; omega); (case aL => have := HL4.out; omega); intro v5 w5 ho hb hg hat; have HO5 := Aside0.mk ho; have HB5 := Aside0.mk hb; have HG5 := Aside0.mk hg; obtain ⟨A5, c5, rfl⟩ := Kd.R_slice ho; have hbk := blk_grown HI4.out.pen.blk hg (fun e => HI4.out.pen.row.1 B e.symm rfl); have y1 : w5.cell? ⟨B, 0, none⟩ = some (.slice A4_ l3.length c4_) := (blk_cell hbk 0).trans rfl; have y1f := blk_frozen hbk 0; have HC5 := Aside0.mk (blk_grown HI4.out.cmd hg (Kd.R_ne HI4.out.pen.row HI4.out.cmd (by decide))); have HK5 := Aside0.mk hbk; clear ho hb hg hat hbk)
   have HI6 := Aside0.mk (HI4.out.row HB5.out HK5.out HC5.out HO5.out)
   simp only [List.length_append] at HI6
   generalize World.setCell w5 _ _ = W6 at HI6 ⊢
   clear HI4 HR4 HO5 HB5 HG5 HK5 HC5 y0 y1 y1f
   obtain ⟨z0, z1, z2, z3, z4, z5, z6, z7, z8, z9, z10⟩ := HI6.out.cells
   go_wp2_with fail
   refine (script_empty.calls A3 c3 x.f3.f0 A4 c4 x.f3.f1 b _ (H3.out.2 _ HI6.out.but) H3.out.1 (H4.out.2 _ HI6.out.but) H4.out.1 HEM.out).mono ?_
   rintro e w7 ⟨rfl, hd⟩
   have HI7 := Aside0.mk (HI6.out.below hd)
   clear hd HI6 z0 z1 z2 z3 z4 z5 z6 z7 z8 z9 z10
   obtain ⟨z0, z1, z2, z3, z4, z5, z6, z7, z8, z9, z10⟩ := HI7.out.cells
   cases b with
   | true =>
    have HP6 : Aside0 (penPut (l3 ++ g) 1 [0] = some r) := HF4
    clear HF4
    go_wp2_with fail
    refine (HI7.out.put1 1 0 HP6.out).mono ?_
    rintro e w8 ⟨rfl, v8, h_, hb_⟩
    have HI8 := Aside0.mk h_
    clear h_ hb_ z0 z1 z2 z3 z4 z5 z6 z7 z8 z9 z10
    go_wp2_with fail
    go_end0
    exact ⟨rfl, HI8.out.but, _, HI8.out.pen.lower HBS.out⟩
   | false =>
    obtain ⟨l5, hp6, hF⟩ := Option.bind_eq_some_iff.mp (show ((penPut (l3 ++ g) 1 [1]).bind fun l5 => (image_Put.f k l5 x.f3.f0 x.f3.f1).map fun t => t.1) = some r from HF4.out)
    obtain ⟨⟨t1, t2⟩, ht, hF⟩ := Option.map_eq_some_iff.mp hF
    subst hF
    have HP6 := Aside0.mk hp6
    have HTP := Aside0.mk ht
    clear hp6 ht HF4
    go_wp2_with fail
    refine (HI7.out.put1 1 1 HP6.out).mono ?_
    rintro e w8 ⟨rfl, v8, h_, hb_⟩
    have HI8 := Aside0.mk h_
    obtain ⟨A8, c8, rfl⟩ := Kd.R_slice h_.pen.row
    clear h_ hb_ z0 z1 z2 z3 z4 z5 z6 z7 z8 z9 z10
    obtain ⟨z0, z1, z2, z3, z4, z5, z6, z7, z8, z9, z10⟩ := HI8.out.cells
    have y0 : w8.cell? ⟨B, 0, none⟩ = some (.slice A8 l5.length c8) := (blk_cell HI8.out.pen.blk 0).trans rfl
    have y0f := blk_frozen HI8.out.pen.blk 0
    have HR8 := Aside0.mk (Kd.R_reads' HI8.out.pen.row)
    have HS3 := Aside0.mk (H3.out.2 _ HI8.out.but)
    have HS4 := Aside0.mk (H4.out.2 _ HI8.out.but)
    go_upto_region 12 with fail
    go_region_with (first | (go_at_call 18; (with_reducible refine (image_Put.calls k A8 c8 l5 A3 c3 x.f3.f0 A4 c4 x.f3.f1 t1 t2 _ ?s1 HR8.out.2.1 ?s2 H3.out.1 ?s3 H4.out.1 HTP.out).mono ?_); (case s1 => repeat (first | exact HR8.out.2.2 | (with_reducible refine Kd.C_drewN ?_ _) | (with_reducible refine Kd.C_drew ?_))); (case s2 => repeat (first | exact HS3.out | (with_reducible refine Kd.C_drewN ?_ _) | (with_reducible refine Kd.C_drew ?_))); (case s3 => repeat (first | exact HS4.out | (with_reducible refine Kd.C_drewN ?_ _) | (with_reducible refine Kd.C_drew ?_))); rintro e w9 ⟨v9, rfl, hR9, hb9⟩; obtain ⟨A9, c9, rfl⟩ := Kd.R_slice hR9; have HI9 := Aside0.mk ((HI8.out.below (below_drew1 (Below.refl _ _))).below hb9); have HX9 := Aside0.mk (((HI8.out.below (below_drew1 (Below.refl _ _))).pen).put (b0 := 0) (base' := w.heap.size) hb9 hR9 HI8.out.but.size); have y9 : w9.cell? ⟨B, 0, none⟩ = some (.slice A8 l5.length c8) := (blk_cell HI9.out.pen.blk 0).trans rfl; have y9f := blk_frozen HI9.out.pen.blk 0; clear hR9 hb9))
    all_goals
     go_wp2_with fail
     go_end0
     exact ⟨rfl, (HI8.out.but.trans (But.of (below_drew1 (Below.refl _ _)))).trans HX9.out.1, _, HX9.out.2.lower HBS.out⟩
  ·by_cases h3 : x.f0 = 3
   ·have e2 : (x.f0 == 2) = false := beq_eq_false_iff_ne.mpr h2
    have e3 : (x.f0 == 3) = true := beq_iff_eq.mpr h3
    have hF := HF.out
    rw [if_neg h2, if_pos h3] at hF
    obtain ⟨l3, hp3, hF⟩ := Option.bind_eq_some_iff.mp hF
    obtain ⟨l4, hp4, hp5⟩ := Option.bind_eq_some_iff.mp hF
    have HP4 := Aside0.mk hp3
    have HP5 := Aside0.mk hp4
    have HP6 := Aside0.mk hp5
    clear hp3 hp4 hp5 hF HF hr h2 h3
    go_wp2_with fail
    refine (HI2.out.put1 1 x.f4.f0 HP4.out).mono ?_
    rintro e w3 ⟨rfl, v3, h_, hb_⟩
    have HI3 := Aside0.mk h_
    clear h_ hb_ z0 z1 z2 z3 z4 z5 z6 z7 z8 z9 z10 HI2 HP4
    obtain ⟨z0, z1, z2, z3, z4, z5, z6, z7, z8, z9, z10⟩ := HI3.out.cells
    go_wp2_with fail
    refine (HI3.out.put3 8 x.f4.f1 x.f4.f2 x.f4.f3 HP5.out).mono ?_
    rintro e w4 ⟨rfl, v4, h_, hb_⟩
    have HI4 := Aside0.mk h_
    clear h_ hb_ z0 z1 z2 z3 z4 z5 z6 z7 z8 z9 z10 HI3 HP5
    obtain ⟨z0, z1, z2, z3, z4, z5, z6, z7, z8, z9, z10⟩ := HI4.out.cells
    go_wp2_with fail
    refine (HI4.out.put1 1 x.f5 HP6.out).mono ?_
    rintro e w5 ⟨rfl, v5, h_, hb_⟩
    have HI5 := Aside0.mk h_
    clear h_ hb_ z0 z1 z2 z3 z4 z5 z6 z7 z8 z9 z10 HI4 HP6
    obtain ⟨z0, z1, z2, z3, z4, z5, z6, z7, z8, z9, z10⟩ := HI5.out.cells
    go_wp2_with fail
    go_end0
    exact ⟨rfl, HI5.out.but, _, HI5.out.pen.lower HBS.out⟩
   ·have h8 : x.f0 ≠ 8 := by omega
    clear hr
    have hF := HF.out
    simp only [if_neg h2, if_neg h3, if_neg h8, Option.some.injEq] at hF
    subst hF
    have e2 : (x.f0 == 2) = false := beq_eq_false_iff_ne.mpr h2
    have e3 : (x.f0 == 3) = false := beq_eq_false_iff_ne.mpr h3
    have e8 : (x.f0 == 8) = false := beq_eq_false_iff_ne.mpr h8
    clear h2 h3 h8
    go_wp2_with fail
    go_end0
    exact ⟨rfl, HI2.out.but, _, HI2.out.pen.lower HBS.out⟩
 ·have hp2 := HP2.out
  rw [if_neg hr] at hp2
  have hp2 := Option.some.inj hp2
  subst hp2
  have h2 : x.f0 ≠ 2 := fun e => hr (by omega)
  have h3 : x.f0 ≠ 3 := fun e => hr (by omega)
  by_cases hl : 2 ≤ x.f0
  ·have d1 : decide (2 ≤ x.f0) = true := decide_eq_true hl
   have d2 : decide (x.f0 ≤ 5) = false := decide_eq_false (fun e => hr ⟨hl, e⟩)
   clear hr hl
   by_cases h8 : x.f0 = 8
   ·have e2 : (x.f0 == 2) = false := beq_eq_false_iff_ne.mpr h2
    have e3 : (x.f0 == 3) = false := beq_eq_false_iff_ne.mpr h3
    have e8 : (x.f0 == 8) = true := beq_iff_eq.mpr h8
    have hF := HF.out
    rw [if_neg h2, if_neg h3, if_pos h8] at hF
    have HP3 := Aside0.mk hF
    clear hF HF h2 h3 h8
    go_wp2_with fail
    refine (HI1.out.put1 1 x.f6 HP3.out).mono ?_
    rintro e w2 ⟨rfl, v2, h_, hb_⟩
    have HI2 := Aside0.mk h_
    clear h_ hb_ z0 z1 z2 z3 z4 z5 z6 z7 z8 z9 z10 HI1 HP3
    obtain ⟨z0, z1, z2, z3, z4, z5, z6, z7, z8, z9, z10⟩ := HI2.out.cells
    go_wp2_with fail
    go_end0
    exact ⟨rfl, HI2.out.but, _, HI2.out.pen.lower HBS.out⟩
   ·skip
    have hF := HF.out
    simp only [if_neg h2, if_neg h3, if_neg h8, Option.some.injEq] at hF
    subst hF
    have e2 : (x.f0 == 2) = false := beq_eq_false_iff_ne.mpr h2
    have e3 : (x.f0 == 3) = false := beq_eq_false_iff_ne.mpr h3
    have e8 : (x.f0 == 8) = false := beq_eq_false_iff_ne.mpr h8
    clear h2 h3 h8
    go_wp2_with fail
    go_end0
    exact ⟨rfl, HI1.out.but, _, HI1.out.pen.lower HBS.out⟩
  ·have d1 : decide (2 ≤ x.f0) = false := decide_eq_false hl
   have h8 : x.f0 ≠ 8 := by omega
   clear hr hl
   have hF := HF.out
   simp only [if_neg h2, if_neg h3, if_neg h8, Option.some.injEq] at hF
   subst hF
   have e2 : (x.f0 == 2) = false := beq_eq_false_iff_ne.mpr h2
   have e3 : (x.f0 == 3) = false := beq_eq_false_iff_ne.mpr h3
   have e8 : (x.f0 == 8) = false := beq_eq_false_iff_ne.mpr h8
   clear h2 h3 h8
   go_wp2_with fail
   go_end0
   exact ⟨rfl, HI1.out.but, _, HI1.out.pen.lower HBS.out⟩
def chkS (k : Nat) (x : S30) : Option Bool := script_Check.f k x.f0 x.f1 x.f2 x.f3.f0 x.f3.f1 x.f4.f0 x.f4.f1 x.f4.f2 x.f4.f3 x.f5 x.f6
def noBytes (k : Nat) (x : S30) : Bool := match chkS k x with | some b => !b | none => true
def penAll (k : Nat) : List Int → List S30 → Option (List Int)
 | b, [] => some b
 | b, x :: r => (penCmd k b x).bind fun b1 => penAll k b1 r
def anyBad (k : Nat) : List S30 → Option Bool
 | [] => some false
 | x :: r => (chkS k x).bind fun b => (anyBad k r).map fun c => !b || c
def script_Write.f (k : Nat) (l0 : List S30) : Option (List Int × Int) :=
 (anyBad k l0).bind fun c => if c = true then some ([], 230) else (penAll k [] l0).map fun b => (b, 0)
theorem chkS_mono (k : Nat) (x : S30) : LeO (chkS k x) (chkS (k + 1) x) := script_Check.mono _ _ _ _ _ _ _ _ _ _ _ _
theorem anyBad_mono (k : Nat) (l : List S30) : LeO (anyBad k l) (anyBad (k + 1) l) := by
 induction l with
 | nil => exact LeO.refl _
 | cons x r ih => exact LeO.bind (chkS_mono k x) fun b => LeO.map _ ih
theorem penAll_mono (k : Nat) (l : List S30) : ∀ b, LeO (penAll k b l) (penAll (k + 1) b l) := by
 induction l with
 | nil => exact fun b => LeO.refl _
 | cons x r ih => exact fun b => LeO.bind (penCmd_mono k b x) fun b1 => ih b1
theorem script_Write.mono : ∀ a0 k, LeO (script_Write.f k a0) (script_Write.f (k + 1) a0) := by
 intro a0 k
 unfold script_Write.f
 exact LeO.bind (anyBad_mono _ _) fun c => LeO.ite (LeO.refl _) (LeO.map _ (penAll_mono _ _ _))
theorem anyBad_some (k : Nat) (l : List S30) (q : Bool) (h : anyBad k l = some q) : (∀ x, x ∈ l → chkS k x = some (!noBytes k x)) ∧ l.any (noBytes k) = q := by
 induction l generalizing q with
 | nil => exact ⟨fun x hx => (by cases hx), Option.some.inj h⟩
 | cons x r ih =>
  obtain ⟨b, hb, h⟩ := Option.bind_eq_some_iff.mp h
  obtain ⟨c, hc, h⟩ := Option.map_eq_some_iff.mp h
  obtain ⟨h1, h2⟩ := ih c hc
  have hx : noBytes k x = !b := by simp [noBytes, hb]
  refine ⟨fun y hy => ?_, ?_⟩
  ·rcases List.mem_cons.mp hy with rfl | hy
   ·rw [hx, hb, Bool.not_not]
   ·exact h1 y hy
  ·rw [List.any_cons, hx, h2, h]
set_option maxHeartbeats 8000000 in
set_option maxRecDepth 100000 in
theorem write_lit_calls (k : Nat) (x : S30) (A2 : Option Addr) (c2 : Nat) (A3 : Option Addr) (c3 : Nat) (A4 : Option Addr) (c4 : Nat) (b : Bool) (W : World) (hb : chkS k x = some b) (l2 : x.f2.length ≤ c2) (g2 : Kd.C k48 W A2 x.f2.length x.f2) (l3 : x.f3.f0.length ≤ c3) (g3 : Kd.C (Kd.int .i64) W A3 x.f3.f0.length x.f3.f0) (l4 : x.f3.f1.length ≤ c4) (g4 : Kd.C (Kd.int .i64) W A4 x.f3.f1.length x.f3.f1) :
  Calls Try.prog 22 #[.agg #[.int .i64 x.f0, .int .i64 x.f1, .slice A2 x.f2.length c2, .slice A3 x.f3.f0.length c3, .slice A4 x.f3.f1.length c4, .int .i64 x.f4.f0, .int .i64 x.f4.f1, .int .i64 x.f4.f2, .int .i64 x.f4.f3, .int .i64 x.f5, .int .i64 x.f6]] W fun e w' => e = .returned (.bool (!b)) ∧ Below W.heap.size W w' := by
 have HB := Aside0.mk hb
 have L2 := Aside0.mk l2
 have L3 := Aside0.mk l3
 have L4 := Aside0.mk l4
 have G2 := Aside0.mk g2
 have G3 := Aside0.mk g3
 have G4 := Aside0.mk g4
 have hbk := blk_new W (.cells #[.int .i64 x.f0, .int .i64 x.f1, .slice A2 x.f2.length c2, .slice A3 x.f3.f0.length c3, .slice A4 x.f3.f1.length c4, .int .i64 x.f4.f0, .int .i64 x.f4.f1, .int .i64 x.f4.f2, .int .i64 x.f4.f3, .int .i64 x.f5, .int .i64 x.f6] 30)
 have HW := Aside0.mk (below_alloc (Below.refl W.heap.size W) (.cells #[.int .i64 x.f0, .int .i64 x.f1, .slice A2 x.f2.length c2, .slice A3 x.f3.f0.length c3, .slice A4 x.f3.f1.length c4, .int .i64 x.f4.f0, .int .i64 x.f4.f1, .int .i64 x.f4.f2, .int .i64 x.f4.f3, .int .i64 x.f5, .int .i64 x.f6] 30))
 have hc := fun j => blk_cell hbk j
 have z0 := (hc 0).trans rfl
 have z1 := (hc 1).trans rfl
 have z2 := (hc 2).trans rfl
 have z3 := (hc 3).trans rfl
 have z4 := (hc 4).trans rfl
 have z5 := (hc 5).trans rfl
 have z6 := (hc 6).trans rfl
 have z7 := (hc 7).trans rfl
 have z8 := (hc 8).trans rfl
 have z9 := (hc 9).trans rfl
 have z10 := (hc 10).trans rfl
 clear hb l2 l3 l4 g2 g3 g4 hbk hc
 go_enter Try.func22, Try.ntmps22
 go_upto_region 1 with fail
 generalize W.alloc _ = W1 at HW z0 z1 z2 z3 z4 z5 z6 z7 z8 z9 z10 ⊢
 go_wp2_with fail
 refine (script_Check.calls k x.f0 x.f1 A2 c2 x.f2 A3 c3 x.f3.f0 A4 c4 x.f3.f1 x.f4.f0 x.f4.f1 x.f4.f2 x.f4.f3 x.f5 x.f6 b _ (Kd.C_below G2.out HW.out) L2.out (Kd.C_below G3.out HW.out) L3.out (Kd.C_below G4.out HW.out) L4.out HB.out).mono ?_
 rintro e w2 ⟨rfl, hd⟩
 have HD := Aside0.mk hd
 clear hd z0 z1 z2 z3 z4 z5 z6 z7 z8 z9 z10
 go_wp2_with fail
 go_ret
 exact ⟨rfl, below_step HW.out HD.out⟩
theorem PenS.start (w : World) : PenS (w.alloc (.cells #[.slice none 0 0] 54)) w.heap.size w.heap.size [] (.slice none 0 0) := ⟨blk_new _ _, Kd.R_nil _ _ _ _ _⟩
theorem penAll_drop (k : Nat) (b : List Int) (xs : List S30) (i : Nat) (h : i < xs.length) : penAll k b (xs.drop i) = (penCmd k b xs[i]).bind fun b1 => penAll k b1 (xs.drop (i + 1)) := by
 rw [List.drop_eq_getElem_cons h]; rfl
set_option maxHeartbeats 8000000 in
set_option maxRecDepth 100000 in
theorem script_Write.calls (k : Nat) (A0 : Option Addr) (c0 : Nat) (l0 : List (S30)) (r1 : List Int) (r2 : Int) (w : World) (hr0 : Kd.C k30 w A0 l0.length l0) (hc0 : l0.length ≤ c0) (h : script_Write.f k l0 = some (r1, r2)) :
  Calls Try.prog 10 #[.slice A0 l0.length c0] w fun e w' => ∃ v0_ : Value, e = .returned (.tuple #[v0_, .int .i64 r2]) ∧ Kd.R (Kd.int .u8) 5 w' w.heap.size (fun _ => True) v0_ r1 ∧ Below w.heap.size w w' := by
 unfold script_Write.f at h
 obtain ⟨q, hq, h⟩ := Option.bind_eq_some_iff.mp h
 obtain ⟨hs, hany⟩ := anyBad_some k l0 q hq
 ·have HS := Aside0.mk hs
  have HANY := Aside0.mk hany
  have HR := Aside0.mk hr0
  have HF := Aside0.mk h
  clear hs h hr0 hq hany
  go_enter Try.func10, Try.ntmps10
  go_wp2_with fail
  refine (api_Cmd_21.by_ (noBytes k) 22 #[] A0 c0 l0 _ HR.out (fun _ _ => by simp [go_sem]) (fun W x A2 c2 A3 c3 A4 c4 hx _ l2 g2 l3 g3 l4 g4 => (write_lit_calls k x A2 c2 A3 c3 A4 c4 _ W (HS.out x hx) l2 g2 l3 g3 l4 g4).mono (fun e w' he => by rwa [Bool.not_not] at he))).mono ?_
  rintro e w1 ⟨rfl, hd⟩
  have HF1 := HF
  rw [HANY.out]
  have HB1 := Aside0.mk hd
  clear hd HF HANY
  cases q with
  | true =>
   have hF := HF1.out
   rw [if_pos rfl] at hF
   simp only [Option.some.injEq, Prod.mk.injEq] at hF
   obtain ⟨rfl, rfl⟩ := hF
   go_wp2_with fail
   go_ret2
   exact ⟨_, rfl, Kd.R_nil _ _ _ _ _, HB1.out⟩
  | false =>
   have hF := HF1.out
   rw [if_neg (by decide)] at hF
   obtain ⟨b, hb, hF⟩ := Option.map_eq_some_iff.mp hF
   simp only [Prod.mk.injEq] at hF
   obtain ⟨rfl, rfl⟩ := hF
   have HH : Aside0 (penAll k [] (l0.drop 0) = some b) := ⟨hb⟩
   have HP := Aside0.mk ((PenS.start w1).lower HB1.out.size)
   have HB2 := Aside0.mk (below_alloc HB1.out (.cells #[.slice none 0 0] 54))
   have HSZ : Aside0 (w.heap.size ≤ w1.heap.size) := ⟨HB1.out.size⟩
   have HBIG := Aside0.mk HR.out.2.1
   clear hb HF1
   have hmf : ∀ (fn : Fn) (first cap : Array Value) (W : World), (Instr.makeFunc fn first cap).run Try.prog W = .ok (.func fn first cap) W := fun _ _ _ _ => rfl
   go_upto_region 4 with fail
   generalize w1.alloc _ = W2 at HP HB2 ⊢
   obtain ⟨B, hB⟩ : ∃ B, w1.heap.size = B := ⟨_, rfl⟩
   rw [hB] at HP HSZ ⊢
   clear hB
   go_wp2_with fail
   go_loopg [7, 16] (l0.length + 1) (fun gg s7 s16 wr => ∃ (i : Nat) (l1 : List Int) (v1 : Value), s16 = .int .i64 (i : Int) ∧ Aside0 (i ≤ l0.length ∧ l0.length - i < gg) ∧ Aside0 (Below w.heap.size w wr) ∧ Aside0 (PenS wr w.heap.size B l1 v1) ∧ Aside0 (penAll k l1 (l0.drop i) = some b))
   case atStart => exact ⟨0, [], _, rfl, ⟨by omega, by omega⟩, HB2, HP, HH⟩
   case round =>
    clear HB1 HB2 HP HH
    obtain ⟨i, l1, v1, rfl, HM, HW, HP, HH⟩ := hrel
    obtain ⟨hi1, hi2⟩ := HM.out
    by_cases hlt : i < l0.length
    ·obtain ⟨ad, A2_, c2_, A3_, c3_, A4_, c4_, he, hx0, hx1, hx2, hx3, hx4, hx5, hx6, hx7, hx8, hx9, hx10, hl2, hi2_, hl3, hi3, hl4, hi4⟩ := at_T30 HR.out (i : Int) (by omega) (by omega)
     have hE : l0[i] = rd_T30 l0 (i : Int) := by simp [rd_T30, hlt]
     have hH := HH.out
     rw [penAll_drop _ _ _ _ hlt, hE] at hH
     obtain ⟨l2, hp, hH⟩ := Option.bind_eq_some_iff.mp hH
     cases he
     replace hx0 := pw_cell_below HW.out hx0
     replace hx1 := pw_cell_below HW.out hx1
     replace hx2 := pw_cell_below HW.out hx2
     replace hx3 := pw_cell_below HW.out hx3
     replace hx4 := pw_cell_below HW.out hx4
     replace hx5 := pw_cell_below HW.out hx5
     replace hx6 := pw_cell_below HW.out hx6
     replace hx7 := pw_cell_below HW.out hx7
     replace hx8 := pw_cell_below HW.out hx8
     replace hx9 := pw_cell_below HW.out hx9
     replace hx10 := pw_cell_below HW.out hx10
     have hb0 : decide ((i : Int) < (l0.length : Int)) = true := decide_eq_true (by omega)
     have hb1 : decide (i < l0.length) = true := decide_eq_true hlt
     have HPC := Aside0.mk hp
     have HH2 := Aside0.mk hH
     have HLT := Aside0.mk hlt
     have K2 := Aside0.mk (And.intro hl2 hi2_)
     have K3 := Aside0.mk (And.intro hl3 hi3)
     have K4 := Aside0.mk (And.intro hl4 hi4)
     (try simp only [Int.toNat_natCast] at hx0 hx1 hx2 hx3 hx4 hx5 hx6 hx7 hx8 hx9 hx10)
     have hltz : (i : Int) < (l0.length : Int) := by omega
     clear hE hp hH hl2 hi2_ hl3 hi3 hl4 hi4
     generalize rd_T30 l0 (i : Int) = y at hx0 hx1 hx2 hx3 hx4 hx5 hx6 hx7 hx8 hx9 hx10 HPC K2 K3 K4
     go_upto_region 8 with fail
     have hbk := blk_new wr (.cells #[.int .i64 y.f0, .int .i64 y.f1, .slice A2_ y.f2.length c2_, .slice A3_ y.f3.f0.length c3_, .slice A4_ y.f3.f1.length c4_, .int .i64 y.f4.f0, .int .i64 y.f4.f1, .int .i64 y.f4.f2, .int .i64 y.f4.f3, .int .i64 y.f5, .int .i64 y.f6] 30)
     have HP2 := Aside0.mk (HP.out.next (below_alloc (Below.refl wr.heap.size wr) (.cells #[.int .i64 y.f0, .int .i64 y.f1, .slice A2_ y.f2.length c2_, .slice A3_ y.f3.f0.length c3_, .slice A4_ y.f3.f1.length c4_, .int .i64 y.f4.f0, .int .i64 y.f4.f1, .int .i64 y.f4.f2, .int .i64 y.f4.f3, .int .i64 y.f5, .int .i64 y.f6] 30)))
     have HW2 := Aside0.mk (below_alloc HW.out (.cells #[.int .i64 y.f0, .int .i64 y.f1, .slice A2_ y.f2.length c2_, .slice A3_ y.f3.f0.length c3_, .slice A4_ y.f3.f1.length c4_, .int .i64 y.f4.f0, .int .i64 y.f4.f1, .int .i64 y.f4.f2, .int .i64 y.f4.f3, .int .i64 y.f5, .int .i64 y.f6] 30))
     have hc := fun j => blk_cell hbk j
     have z0 := (hc 0).trans rfl
     have z1 := (hc 1).trans rfl
     have z2 := (hc 2).trans rfl
     have z3 := (hc 3).trans rfl
     have z4 := (hc 4).trans rfl
     have z5 := (hc 5).trans rfl
     have z6 := (hc 6).trans rfl
     have z7 := (hc 7).trans rfl
     have z8 := (hc 8).trans rfl
     have z9 := (hc 9).trans rfl
     have z10 := (hc 10).trans rfl
     clear hbk hc hx0 hx1 hx2 hx3 hx4 hx5 hx6 hx7 hx8 hx9 hx10 HP HW
     generalize wr.alloc _ = W3 at HP2 HW2 z0 z1 z2 z3 z4 z5 z6 z7 z8 z9 z10 ⊢
     go_wp2_with fail
     refine (pen_cmd.calls k B w.heap.size l1 l2 v1 y A2_ c2_ A3_ c3_ A4_ c4_ _ HW2.out.size HP2.out ⟨K2.out.1, fun W hW => Kd.C_below K2.out.2 (hW.under HW2.out HSZ.out)⟩ ⟨K3.out.1, fun W hW => Kd.C_below K3.out.2 (hW.under HW2.out HSZ.out)⟩ ⟨K4.out.1, fun W hW => Kd.C_below K4.out.2 (hW.under HW2.out HSZ.out)⟩ HPC.out).mono ?_
     rintro e w5 ⟨rfl, hb5, v5, hP5⟩
     have HB5 := Aside0.mk (hb5.under HW2.out HSZ.out)
     have HP5 := Aside0.mk hP5
     clear hb5 hP5 z0 z1 z2 z3 z4 z5 z6 z7 z8 z9 z10
     go_wp2_with fail
     go_roundg (l0.length - i)
     case measure => have := HM.out; have := HLT.out; omega
     case rel => exact ⟨i + 1, l2, v5, int_next _ (by have := HBIG.out; have := HLT.out; omega), ⟨by have := HLT.out; omega, by have := HLT.out; omega⟩, HB5, HP5, HH2⟩
    ·have hb0 : decide ((i : Int) < (l0.length : Int)) = false := decide_eq_false (by omega)
     have hb1 : decide (i < l0.length) = false := decide_eq_false hlt
     have hH := HH.out
     rw [List.drop_of_length_le (by omega)] at hH
     have HH2 := Aside0.mk (Option.some.inj hH)
     obtain ⟨A5, c5, rfl⟩ := Kd.R_slice HP.out.row
     have z0 : wr.cell? ⟨B, 0, none⟩ = some (.slice A5 l1.length c5) := (blk_cell HP.out.blk 0).trans rfl
     clear hH hlt
     go_wp2_with fail
     go_ret2
     exact ⟨_, rfl, HH2.out ▸ Kd.R_mono HP.out.row (fun _ _ => trivial), HW.out⟩
def tkl : Int → List Int → Int
  | n, [] => n
  | n, c :: r => tkl (Go.bits .or .i64 (wrap64 (n * 256)) (wrap64 c)) r
theorem pack_take.no (A0 : Option Addr) (c0 : Nat) (l0 : List Int) (a1 : Int) (hl : (l0.length : Int) * 8 ≤ 9223372036854775807) (h : okSize a1 = false ∨ (l0.length : Int) < a1) (w : World) :
    Calls Try.prog 85 #[.slice A0 l0.length c0, .int .i64 a1] w fun e w' => e = .panicked [wrongE] ∧ w = w' := by
  by_cases hk : okSize a1 = true
  · have h2 : (l0.length : Int) < a1 := by
      rcases h with h | h
      · rw [hk] at h; cases h
      · exact h
    have e1 : wrap64 (8 * (l0.length : Int)) = 8 * (l0.length : Int) := by unfold wrap64; omega
    have e2 : IntKind.i64.wrap (8 * (l0.length : Int)) = 8 * (l0.length : Int) := (i64_w _).trans e1
    have e3 : decide (a1 ≤ (l0.length : Int)) = false := decide_eq_false (by omega)
    clear h h2 hl e1
    have HK := Aside0.mk hk
    clear hk
    go_enter Try.func85, Try.ntmps85
    go_wp2_with (first | (go_at_call 69; (with_reducible refine (pack_bits.ok a1 HK.out _).mono ?_); rintro e w' ⟨rfl, rfl⟩) | (go_at_call 81; (with_reducible refine (pack_must.no _).mono ?_); rintro e w' ⟨rfl, rfl⟩))
    exact ⟨rfl, rfl, rfl⟩
  · have hk' : okSize a1 = false := by simpa using hk
    clear h hk hl
    have HK := Aside0.mk hk'
    clear hk'
    go_enter Try.func85, Try.ntmps85
    go_wp2_with (first | (go_at_call 69; (with_reducible refine (pack_bits.no a1 HK.out _).mono ?_); rintro e w' ⟨rfl, rfl⟩))
    exact ⟨rfl, rfl, rfl⟩
set_option maxHeartbeats 8000000 in
set_option maxRecDepth 100000 in
theorem pack_take.ok (A0 : Option Addr) (c0 : Nat) (l0 : List Int) (a1 : Int) (hl : (l0.length : Int) * 8 ≤ 9223372036854775807) (hk : okSize a1 = true) (h2 : a1 ≤ (l0.length : Int)) (w : World)
    (hr0 : Kd.C (Kd.int .u8) w A0 l0.length l0) (hc0 : l0.length ≤ c0) :
    Calls Try.prog 85 #[.slice A0 l0.length c0, .int .i64 a1] w fun e w' => ∃ (A1 : Option Addr) (c1 : Nat), e = .returned (.tuple #[.int .i64 (tkl 0 (l0.take a1.toNat)), .slice A1 (l0.drop a1.toNat).length c1]) ∧
      (l0.drop a1.toNat).length ≤ c1 ∧ (∀ W', Kd.C (Kd.int .u8) W' A0 l0.length l0 → Kd.C (Kd.int .u8) W' A1 (l0.drop a1.toNat).length (l0.drop a1.toNat)) ∧ Drawn0 w w' := by
  have h3 : a1 = 1 ∨ a1 = 2 ∨ a1 = 8 := by simpa [okSize, or_assoc] using hk
  have h0 : 0 ≤ a1 := by omega
  have e1 : wrap64 (8 * (l0.length : Int)) = 8 * (l0.length : Int) := by unfold wrap64; omega
  have e2 : IntKind.i64.wrap (8 * (l0.length : Int)) = 8 * (l0.length : Int) := (i64_w _).trans e1
  have e3 : decide (a1 ≤ (l0.length : Int)) = true := decide_eq_true (by omega)
  obtain ⟨y, hy⟩ : ∃ y : List Int, y = l0.take a1.toNat := ⟨_, rfl⟩
  obtain ⟨i08, hi08, _, hsz8, _⟩ := info_parts info5
  have hcut8 := cut_to (P := Try.prog) 31 5 .i64 Try.underlying31 hi08 A0 l0.length c0 a1 h0 h2 hc0
  have hr8 := Kd.C_take (m := a1.toNat) hr0 (by omega)
  have hy8 : y.length = a1.toNat := (by rw [hy, List.length_take]; omega)
  rw [← hy] at hr8
  rw [← hy8] at hcut8
  have HR := Aside0.mk hr8
  have HR0 := Aside0.mk hr0
  have HC0 := Aside0.mk hc0
  have HK := Aside0.mk hk
  have HY := Aside0.mk hy
  have HY8 := Aside0.mk hy8
  have HL := Aside0.mk h2
  have H0 := Aside0.mk h0
  have HH := Aside0.mk hl
  clear hr8 hr0 hc0 hk hy hy8 h3 hl e1 hi08 hsz8 h2 h0
  go_enter Try.func85, Try.ntmps85
  go_wp2_with (first | (go_at_call 69; (with_reducible refine (pack_bits.ok a1 HK.out _).mono ?_); rintro e w' ⟨rfl, rfl⟩) | (go_at_call 81; (with_reducible refine (pack_must.ok _).mono ?_); rintro e w' ⟨rfl, rfl⟩))
  go_loopg [6, 20] (y.length + 1) (fun kq v6 v20 w' => ∃ (x6 : Int) (i : Nat), v6 = .int .i64 x6 ∧ v20 = .int .i64 (i : Int) ∧ Aside0 (i ≤ y.length ∧ y.length - i < kq ∧ tkl x6 (y.drop i) = tkl 0 y) ∧ Aside0 (Kd.C (Kd.int .u8) w' A0 y.length y) ∧ Drawn0 w w')
  case atStart => exact ⟨0, 0, rfl, rfl, ⟨by omega, by omega, by simp⟩, HR, Drawn0.refl _⟩
  case round =>
    obtain ⟨x6, i, rfl, rfl, HI, HR1, ⟨m1, rfl⟩⟩ := hrel
    by_cases hlt : i < y.length
    · have p0 : (0 : Int) ≤ (i : Int) := by omega
      have q0 : (i : Int) < (y.length : Int) := by omega
      obtain ⟨ad, he, hx⟩ := Kd.at_int HR1.out (i : Int) p0 q0
      cases he
      rw [Int.toNat_natCast] at hx
      have hb0 : decide ((i : Int) < (y.length : Int)) = true := decide_eq_true q0
      have hb1 : decide (i < y.length) = true := decide_eq_true hlt
      have p1 := eq_true p0
      have q1 := eq_true q0
      have HLT := Aside0.mk hlt
      have hHI := HI
      clear hlt p0 q0
      go_wp2
      have hlt := HLT.out
      obtain ⟨hi1, hi2, hi3⟩ := HI.out
      go_roundg (gk - 1)
      case measure => omega
      case rel =>
        have hd : y.drop i = y[i] :: y.drop (i + 1) := List.drop_eq_getElem_cons hlt
        have hrd : rd y (i : Int) = y[i] := by unfold rd; simp [List.getD_eq_getElem?_getD, hlt]
        have hlen : y.length ≤ 8 := by have h3 : a1 = 1 ∨ a1 = 2 ∨ a1 = 8 := by simpa [okSize, or_assoc] using HK.out
                                       have := HY8.out; omega
        have g1 : i + 1 ≤ y.length := by omega
        have g2 : y.length - (i + 1) < gk - 1 := by omega
        have hw : wrap64 ((i : Int) + 1) = ((i + 1 : Nat) : Int) := by unfold wrap64; omega
        exact ⟨_, i + 1, rfl, by rw [hw], ⟨g1, g2, by rw [← hi3, hd, hrd]; rfl⟩, HR1, ⟨m1, rfl⟩⟩
    · have hi := HI.out
      obtain ⟨hi1, hi2, hi3⟩ := hi
      have hie : i = y.length := by omega
      subst hie
      have hb0 : decide ((y.length : Int) < (y.length : Int)) = false := decide_eq_false (by omega)
      have hb1 : decide (y.length < y.length) = false := decide_eq_false (by omega)
      have hres : tkl 0 (l0.take a1.toNat) = x6 := by rw [← HY.out, ← hi3]; simp [tkl]
      obtain ⟨i014, hi014, _, hsz14, _⟩ := info_parts info5
      have hcut14 := cut_from (P := Try.prog) 31 5 .i64 Try.underlying31 hi014 1 hsz14 A0 l0.length c0 a1 H0.out HL.out
      have hr14 := fun W' (hW : Kd.C (Kd.int .u8) W' A0 l0.length l0) => Kd.C_drop (m := a1.toNat) hW (by have := HL.out; omega) HC0.out
      obtain ⟨A14, hA14⟩ : ∃ A1, A1 = (if c0 = a1.toNat then A0 else (A0 : Option Addr).map (·.add (a1.toNat * 1))) := ⟨_, rfl⟩
      obtain ⟨c14, hc14⟩ : ∃ c1, c1 = c0 - a1.toNat := ⟨_, rfl⟩
      obtain ⟨z, hz⟩ : ∃ z : List Int, z = l0.drop a1.toNat := ⟨_, rfl⟩
      have hy14 : z.length = l0.length - a1.toNat := by rw [hz, List.length_drop]
      have hcz : z.length ≤ c14 := by rw [hy14, hc14]; have := HC0.out; omega
      rw [← hz] at hr14
      rw [← hy14, ← hA14, ← hc14] at hcut14
      have HR14 := Aside0.mk (show ∀ W', Kd.C (Kd.int .u8) W' A0 l0.length l0 → Kd.C (Kd.int .u8) W' A14 z.length z by rw [hA14]; exact hr14)
      have HZ := Aside0.mk hz
      have HCZ := Aside0.mk hcz
      have HRES := Aside0.mk hres
      clear hi1 hi2 hi3 hr14 hA14 hc14 hz hy14 hcz hres hi014 hsz14
      go_wp2
      repeat (go_quiet (fail); try go_wp2)
      go_ret2
      rw [← HZ.out]
      exact ⟨A14, c14, by rw [HRES.out]; rfl, HCZ.out, HR14.out, by first | exact ⟨_, World.drewN_drewN _ _ _⟩ | repeat (first | exact Drawn0.refl _ | apply Drawn0.step)⟩
end Go.Proofs.Ytjcgadfmhfhbgaa.A
