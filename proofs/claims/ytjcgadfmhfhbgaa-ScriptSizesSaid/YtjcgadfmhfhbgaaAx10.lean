/- Lean functions that answer as the Go functions do, and the proofs that they do; no conditions. Written by this session's own driver: a scratch copy of the kit's print with the session's additions (wip/xprint). -/
import Derived.Test.YtjcgadfmhfhbgaaAx0
import Derived.Test.YtjcgadfmhfhbgaaAx4
import Derived.Test.YtjcgadfmhfhbgaaAx7
import Derived.Test.YtjcgadfmhfhbgaaAx8
import Derived.Test.YtjcgadfmhfhbgaaAx9
namespace Go.Proofs.Ytjcgadfmhfhbgaa.A
open Go.RowKit Go.Proofs.YtjcgadfmhfhbgaaW.PrintWords Go.Proofs.YtjcgadfmhfhbgaaW.PrintLast Go.Proofs.YtjcgadfmhfhbgaaW.PrintMore
attribute [local go_sem] max2_int min2_int max_two min_two max_three min_three max_four min_four
set_option linter.unusedVariables false
set_option linter.unusedSimpArgs false
structure EyeS (w : World) (S : Nat → Prop) (B : Nat) (l : List Int) (wr : Bool) (A : Option Addr) (c : Nat) : Prop where
 blk : w.heap[B]? = some (.cells #[.slice A l.length c, .bool wr] 60 (0, 0))
 cap : l.length ≤ c
 row : ∀ W, But S w W → Kd.C (Kd.int .u8) W A l.length l
theorem EyeS.next {w w1 : World} {S T : Nat → Prop} {B : Nat} {l : List Int} {wr : Bool} {A : Option Addr} {c : Nat} (h : EyeS w S B l wr A c) (hb : But T w w1) (hT : ∀ k, T k → S k) (hB : ¬ T B) : EyeS w1 S B l wr A c :=
 ⟨(hb.block B (blk_lt h.blk) hB).trans h.blk, h.cap, fun W hW => h.row W ((hb.mono hT).trans hW)⟩
theorem EyeS.wrong {w : World} {S : Nat → Prop} {B : Nat} {l : List Int} {wr : Bool} {A : Option Addr} {c : Nat} (h : EyeS w S B l wr A c) (hB : S B) (b : Bool) : EyeS (w.setCell ⟨B, 1, none⟩ (.bool b)) S B l b A c :=
 ⟨blk_put h.blk 1 _ rfl, h.cap, fun W hW => h.row W (((But.refl S w).set (p := ⟨B, 1, none⟩) (.inl hB) _).trans hW)⟩
theorem EyeS.left {w : World} {S : Nat → Prop} {B : Nat} {l l1 : List Int} {wr : Bool} {A A1 : Option Addr} {c c1 : Nat} (h : EyeS w S B l wr A c) (hB : S B) (hc : l1.length ≤ c1) (hr : ∀ W, But S w W → Kd.C (Kd.int .u8) W A1 l1.length l1) : EyeS (w.setCell ⟨B, 0, none⟩ (.slice A1 l1.length c1)) S B l1 wr A1 c1 :=
 ⟨blk_put h.blk 0 _ rfl, hc, fun W hW => hr W (((But.refl S w).set (p := ⟨B, 0, none⟩) (.inl hB) _).trans hW)⟩
theorem row_stays {α : Type} {d : Kd α} {e base : Nat} {ok S : Nat → Prop} {w : World} {v : Value} {xs : List α} (h : d.R e w base ok v xs) (hS : ∀ k, S k → k < base) : ∃ A c, v = .slice A xs.length c ∧ xs.length ≤ c ∧ ∀ W, But S w W → d.C W A xs.length xs := by
 obtain ⟨A, c, rfl⟩ := Kd.R_slice h
 exact ⟨A, c, rfl, (Kd.R_reads' h).2.1, fun W hW => (Kd.R_reads' (R_but (Kd.R_bound h) hW (fun k hk hs => by have := hS k hs; have := hk.2.1; omega))).2.2⟩
set_option maxHeartbeats 8000000 in
set_option maxRecDepth 100000 in
theorem eye_take.calls (S : Nat → Prop) (B : Nat) (l : List Int) (wr : Bool) (A : Option Addr) (c : Nat) (size n : Int) (rest : List Int) (f : Int) (w : World) (hS : ∀ k, S k → k < w.heap.size) (hB : S B) (hE : EyeS w S B l wr A c) (h : pack_Take.f l size = some (n, rest, f)) :
  Calls Try.prog 46 #[.pointer (some ⟨B, 0, none⟩), .int .i64 size] w fun e w' => e = .returned (.int .i64 n) ∧ But (fun k => k = B) w w' ∧ ∃ A' c', EyeS w' S B rest (wr || f != 0) A' c' := by
 have HC := Aside0.mk (hE.row _ (But.refl _ _))
 have HP := Aside0.mk hE.cap
 have HB := Aside0.mk hE.blk
 have HBS := Aside0.mk hB
 have HS := Aside0.mk hS
 have HT := Aside0.mk h
 have c0 : w.cell? ⟨B, 0, none⟩ = some (.slice A l.length c) := (blk_cell HB.out 0).trans rfl
 obtain ⟨b, hb⟩ : ∃ b : Bool, (f != 0) = b := ⟨_, rfl⟩
 clear hE h hB hS
 go_enter Try.func46, Try.ntmps46
 go_wp2_with fail
 refine (pack_Take.calls A c l size n rest f _ HC.out HP.out HT.out).mono ?_
 rintro e w1 ⟨v1, rfl, hR1, hb1⟩
 have HB1 := Aside0.mk (blk_below HB.out hb1)
 obtain ⟨A1, c1, rfl, hc1, hrow⟩ := row_stays hR1 HS.out
 have HR1 := Aside0.mk hrow
 have HC1 := Aside0.mk hc1
 have Hb1 := Aside0.mk hb1
 have d0 : w1.cell? ⟨B, 0, none⟩ = some (.slice A l.length c) := (blk_cell HB1.out 0).trans rfl
 have d1 : w1.cell? ⟨B, 1, none⟩ = some (.bool wr) := (blk_cell HB1.out 1).trans rfl
 have f0 := blk_frozen HB1.out 0
 have f1 := blk_frozen HB1.out 1
 clear hR1 hb1 c0 hrow hc1
 have HW := Aside0.mk (show ∀ b1 : Bool, But (fun k => k = B) w ((w1.setCell ⟨B, 1, none⟩ (.bool b1)).setCell ⟨B, 0, none⟩ (.slice A1 rest.length c1)) ∧ EyeS ((w1.setCell ⟨B, 1, none⟩ (.bool b1)).setCell ⟨B, 0, none⟩ (.slice A1 rest.length c1)) S B rest b1 A1 c1 from fun b1 =>
  ⟨((But.of (S := fun k => k = B) Hb1.out).set (p := ⟨B, 1, none⟩) (Or.inl rfl) _).set (p := ⟨B, 0, none⟩) (Or.inl rfl) _, blk_put (blk_put HB1.out 1 (.bool b1) rfl) 0 _ rfl, HC1.out,
   fun W hW => HR1.out W ((((But.refl S w1).set (p := ⟨B, 1, none⟩) (.inl HBS.out) _).set (p := ⟨B, 0, none⟩) (.inl HBS.out) _).trans hW)⟩)
 cases wr with
 | true =>
  go_wp2_with fail
  go_ret
  exact ⟨rfl, (HW.out true).1, A1, c1, (HW.out true).2⟩
 | false =>
  go_wp2_with fail
  go_ret
  refine ⟨rfl, (HW.out b).1, A1, c1, ?_⟩
  rw [Bool.false_or, hb]
  exact (HW.out b).2
structure CmdS (w : World) (S : Nat → Prop) (base Bc : Nat) (x : S30) (vg vs vd : Value) : Prop where
 blk : w.heap[Bc]? = some (.cells #[.int .i64 x.f0, .int .i64 x.f1, vg, vs, vd, .int .i64 x.f4.f0, .int .i64 x.f4.f1, .int .i64 x.f4.f2, .int .i64 x.f4.f3, .int .i64 x.f5, .int .i64 x.f6] 30 (0, 0))
 g : Kd.R k48 48 w base (fun k => ¬ S k) vg x.f2
 s : Kd.R (Kd.int .i64) 3 w base (fun k => ¬ S k) vs x.f3.f0
 d : Kd.R (Kd.int .i64) 3 w base (fun k => ¬ S k) vd x.f3.f1
theorem CmdS.next {w w1 : World} {S T : Nat → Prop} {base Bc : Nat} {x : S30} {vg vs vd : Value} (h : CmdS w S base Bc x vg vs vd) (hb : But T w w1) (hT : ∀ k, T k → S k) (hB : ¬ T Bc) : CmdS w1 S base Bc x vg vs vd :=
 have hn : ∀ k, ¬ S k → ¬ T k := fun k hk ht => hk (hT k ht)
 ⟨(hb.block Bc (blk_lt h.blk) hB).trans h.blk, R_but h.g hb hn, R_but h.s hb hn, R_but h.d hb hn⟩
theorem CmdS.graph {w : World} {S : Nat → Prop} {base Bc : Nat} {x : S30} {vg vs vd v : Value} {gl : List S48} (h : CmdS w S base Bc x vg vs vd) (hC : S Bc) (hg : Kd.R k48 48 w base (fun k => ¬ S k) v gl) : CmdS (w.setCell ⟨Bc, 2, none⟩ v) S base Bc ⟨x.f0, x.f1, gl, x.f3, x.f4, x.f5, x.f6⟩ v vs vd :=
 have hb : But S w (w.setCell ⟨Bc, 2, none⟩ v) := (But.refl S w).set (p := ⟨Bc, 2, none⟩) (.inl hC) _
 ⟨blk_put h.blk 2 _ rfl, R_but hg hb (fun _ hk => hk), R_but h.s hb (fun _ hk => hk), R_but h.d hb (fun _ hk => hk)⟩
theorem CmdS.tensor {w : World} {S : Nat → Prop} {base Bc : Nat} {x : S30} {vg vs vd v u : Value} {sl dl : List Int} (h : CmdS w S base Bc x vg vs vd) (hC : S Bc) (hs : Kd.R (Kd.int .i64) 3 w base (fun k => ¬ S k) v sl) (hd : Kd.R (Kd.int .i64) 3 w base (fun k => ¬ S k) u dl) : CmdS ((w.setCell ⟨Bc, 3, none⟩ v).setCell ⟨Bc, 4, none⟩ u) S base Bc ⟨x.f0, x.f1, x.f2, ⟨sl, dl⟩, x.f4, x.f5, x.f6⟩ vg v u :=
 have hb : But S w ((w.setCell ⟨Bc, 3, none⟩ v).setCell ⟨Bc, 4, none⟩ u) := ((But.refl S w).set (p := ⟨Bc, 3, none⟩) (.inl hC) _).set (p := ⟨Bc, 4, none⟩) (.inl hC) _
 ⟨blk_put (blk_put h.blk 3 _ rfl) 4 _ rfl, R_but h.g hb (fun _ hk => hk), R_but hs hb (fun _ hk => hk), R_but hd hb (fun _ hk => hk)⟩
theorem row_new {α : Type} {d : Kd α} {e b0 base : Nat} {ok S : Nat → Prop} {w : World} {v : Value} {xs : List α} (h : d.R e w b0 ok v xs) (hS : ∀ k, S k → k < b0) (hb : base ≤ b0) : d.R e w base (fun k => ¬ S k) v xs :=
 Kd.R_mono (Kd.R_lower (Kd.R_bound h) hb) (fun k hk hs => by have := hS k hs; have := hk.2.1; omega)
def eyeLoad (k : Nat) (l : List Int) (wr : Bool) (x : S30) : Option (List Int × Bool × S30) :=
 (pack_Take.f l 2).bind fun p => if (wr || p.2.2 != 0 || decide ((p.2.1.length : Int) < p.1)) = true then some (p.2.1, true, x) else
  if 0 ≤ p.1 then (wire_Read.f (p.2.1.take p.1.toNat)).bind fun g => (pack_Take.f (p.2.1.drop p.1.toNat) 1).bind fun q =>
   if q.1 = 0 then some (q.2.1, q.2.2 != 0 || g.2 != 0, ⟨x.f0, x.f1, g.1, x.f3, x.f4, x.f5, x.f6⟩)
   else if q.1 = 1 then (image_Take.f k q.2.1).bind fun t => some (t.2.2.1, q.2.2 != 0 || g.2 != 0 || t.2.2.2 != 0, ⟨x.f0, x.f1, g.1, ⟨t.1, t.2.1⟩, x.f4, x.f5, x.f6⟩)
   else some (q.2.1, true, ⟨x.f0, x.f1, g.1, x.f3, x.f4, x.f5, x.f6⟩)
  else none
set_option maxHeartbeats 8000000 in
set_option maxRecDepth 100000 in
theorem eye_load.calls (k : Nat) (S : Nat → Prop) (B Bc base : Nat) (l : List Int) (wr : Bool) (A : Option Addr) (c : Nat) (x : S30) (vg vs vd : Value) (l' : List Int) (wr' : Bool) (x' : S30) (w : World)
  (hS : ∀ k, S k → k < w.heap.size) (hB : S B) (hC : S Bc) (hne : B ≠ Bc) (hbase : base ≤ w.heap.size) (hE : EyeS w S B l wr A c) (hX : CmdS w S base Bc x vg vs vd) (h : eyeLoad k l wr x = some (l', wr', x')) :
  Calls Try.prog 47 #[.pointer (some ⟨B, 0, none⟩), .pointer (some ⟨Bc, 0, none⟩)] w fun e w' => e = .returned (.tuple #[]) ∧ But (fun k => k = B ∨ k = Bc) w w' ∧ ∃ A' c' vg' vs' vd', EyeS w' S B l' wr' A' c' ∧ CmdS w' S base Bc x' vg' vs' vd' := by
 unfold eyeLoad at h
 obtain ⟨⟨n, b1, f1⟩, hp, h⟩ := Option.bind_eq_some_iff.mp h
 have HF := Aside0.mk h
 have HP := Aside0.mk hp
 have HS := Aside0.mk hS
 have HB := Aside0.mk hB
 have HC := Aside0.mk hC
 have HN := Aside0.mk hne
 have HA := Aside0.mk hbase
 have HE := Aside0.mk hE
 have HX := Aside0.mk hX
 clear h hp hS hB hC hne hbase hE hX
 go_enter Try.func47, Try.ntmps47
 go_wp2_with fail
 refine (eye_take.calls S B l wr A c 2 n b1 f1 _ HS.out HB.out HE.out HP.out).mono ?_
 rintro e w1 ⟨rfl, hb1, A1, c1, hE1⟩
 obtain ⟨wr1, hw1⟩ : ∃ b, (wr || f1 != 0) = b := ⟨_, rfl⟩
 rw [hw1] at hE1
 have HF1 : Aside0 ((if (wr1 || decide ((b1.length : Int) < n)) = true then some (b1, true, x) else
  if 0 ≤ n then (wire_Read.f (b1.take n.toNat)).bind fun g => (pack_Take.f (b1.drop n.toNat) 1).bind fun q =>
   if q.1 = 0 then some (q.2.1, q.2.2 != 0 || g.2 != 0, (⟨x.f0, x.f1, g.1, x.f3, x.f4, x.f5, x.f6⟩ : S30))
   else if q.1 = 1 then (image_Take.f k q.2.1).bind fun t => some (t.2.2.1, q.2.2 != 0 || g.2 != 0 || t.2.2.2 != 0, ⟨x.f0, x.f1, g.1, ⟨t.1, t.2.1⟩, x.f4, x.f5, x.f6⟩)
   else some (q.2.1, true, ⟨x.f0, x.f1, g.1, x.f3, x.f4, x.f5, x.f6⟩)
  else none) = some (l', wr', x')) := ⟨by rw [← hw1]; exact HF.out⟩
 have HX1 := Aside0.mk (HX.out.next hb1 (fun k hk => hk ▸ HB.out) (fun e => HN.out e.symm))
 have HE1 := Aside0.mk hE1
 have HW1 := Aside0.mk hb1
 have HS1 : Aside0 (∀ k, S k → k < w1.heap.size) := ⟨fun k hk => Nat.lt_of_lt_of_le (HS.out k hk) hb1.size⟩
 have c0 : w1.cell? ⟨B, 0, none⟩ = some (.slice A1 b1.length c1) := (blk_cell HE1.out.blk 0).trans rfl
 have c1_ : w1.cell? ⟨B, 1, none⟩ = some (.bool wr1) := (blk_cell HE1.out.blk 1).trans rfl
 have f1_ := blk_frozen HE1.out.blk 1
 have s1 : ∀ b, (w1.setCell ⟨B, 1, none⟩ (.bool b)).cell? ⟨B, 1, none⟩ = some (.bool b) := fun b => World.cell?_setCell_same _ _ _ c1_
 clear hw1 hE1 hb1 HF HX HE HP
 cases wr1 with
 | true =>
  have hF := HF1.out
  simp only [Bool.true_or, if_true, Option.some.injEq, Prod.mk.injEq] at hF
  obtain ⟨rfl, rfl, rfl⟩ := hF
  clear HF1
  have HE2 := Aside0.mk (HE1.out.wrong HB.out true)
  have hb2 : But (fun k => k = B) w1 (w1.setCell ⟨B, 1, none⟩ (.bool true)) := But.cell _ _ _ _
  have HX2 := Aside0.mk (HX1.out.next hb2 (fun k hk => hk ▸ HB.out) (fun e => HN.out e.symm))
  have HB2 := Aside0.mk (HW1.out.trans hb2)
  clear hb2 HE1 HX1 HW1
  go_wp2_with fail
  refine bodyPost_ret (results_none rfl _ _ _) rfl ?_
  exact ⟨rfl, HB2.out.mono (fun _ => Or.inl), _, _, _, _, _, HE2.out, HX2.out⟩
 | false =>
  simp only [Bool.false_or] at HF1
  by_cases hd : (b1.length : Int) < n
  ·have hF := HF1.out
   rw [if_pos (by simpa using hd)] at hF
   simp only [Option.some.injEq, Prod.mk.injEq] at hF
   obtain ⟨rfl, rfl, rfl⟩ := hF
   have hd1 : decide ((b1.length : Int) < n) = true := decide_eq_true hd
   have HE2 := Aside0.mk (HE1.out.wrong HB.out true)
   have hb2 : But (fun k => k = B) w1 (w1.setCell ⟨B, 1, none⟩ (.bool true)) := But.cell _ _ _ _
   have HX2 := Aside0.mk (HX1.out.next hb2 (fun k hk => hk ▸ HB.out) (fun e => HN.out e.symm))
   have HB2 := Aside0.mk (HW1.out.trans hb2)
   clear hb2 HE1 HX1 HW1 HF1 hd
   go_wp2_with fail
   refine bodyPost_ret (results_none rfl _ _ _) rfl ?_
   exact ⟨rfl, HB2.out.mono (fun _ => Or.inl), _, _, _, _, _, HE2.out, HX2.out⟩
  ·have hF := HF1.out
   rw [if_neg (by simpa using hd)] at hF
   by_cases hn : 0 ≤ n
   ·rw [if_pos hn] at hF
    obtain ⟨⟨gl, ge⟩, hg, hF⟩ := Option.bind_eq_some_iff.mp hF
    obtain ⟨⟨q1, b2, q3⟩, hq, hF⟩ := Option.bind_eq_some_iff.mp hF
    have HF2 := Aside0.mk hF
    have hd1 : decide ((b1.length : Int) < n) = false := decide_eq_false hd
    have HE2 := Aside0.mk (HE1.out.wrong HB.out false)
    have hb2 : But (fun k => k = B) w1 (w1.setCell ⟨B, 1, none⟩ (.bool false)) := But.cell _ _ _ _
    have HX2 := Aside0.mk (HX1.out.next hb2 (fun k hk => hk ▸ HB.out) (fun e => HN.out e.symm))
    have HB2 := Aside0.mk (HW1.out.trans hb2)
    have HS2 : Aside0 (∀ k, S k → k < (w1.setCell ⟨B, 1, none⟩ (.bool false)).heap.size) := ⟨fun k hk => Nat.lt_of_lt_of_le (HS1.out k hk) hb2.size⟩
    have d0 : (w1.setCell ⟨B, 1, none⟩ (.bool false)).cell? ⟨B, 0, none⟩ = some (.slice A1 b1.length c1) := (blk_cell HE2.out.blk 0).trans rfl
    obtain ⟨y, hy⟩ : ∃ y, y = b1.take n.toNat := ⟨_, rfl⟩
    obtain ⟨z, hz⟩ : ∃ z, z = b1.drop n.toNat := ⟨_, rfl⟩
    have hy8 : y.length = n.toNat := by rw [hy, List.length_take]; omega
    have hz8 : z.length = b1.length - n.toNat := by rw [hz, List.length_drop]
    obtain ⟨i08, hi08, _, hsz8, _⟩ := info_parts info5
    have hcut1 := cut_to (P := Try.prog) 31 5 .i64 Try.underlying31 hi08 A1 b1.length c1 n hn (by omega) HE2.out.cap
    have hcut2 := cut_from (P := Try.prog) 31 5 .i64 Try.underlying31 hi08 1 hsz8 A1 b1.length c1 n hn (by omega)
    obtain ⟨A2, hA2⟩ : ∃ A2, (if c1 = n.toNat then A1 else A1.map (·.add (n.toNat * 1))) = A2 := ⟨_, rfl⟩
    rw [← hy8] at hcut1
    rw [← hz8, hA2] at hcut2
    have HY : Aside0 (∀ W, But S (w1.setCell ⟨B, 1, none⟩ (.bool false)) W → Kd.C (Kd.int .u8) W A1 y.length y) := ⟨fun W hW => by rw [hy]; exact Kd.C_take (HE2.out.row W hW) (by omega)⟩
    have HZ : Aside0 (∀ W, But S (w1.setCell ⟨B, 1, none⟩ (.bool false)) W → Kd.C (Kd.int .u8) W A2 z.length z) := ⟨fun W hW => by rw [hz, ← hA2]; exact Kd.C_drop (HE2.out.row W hW) (by omega) HE2.out.cap⟩
    have HYC : Aside0 (y.length ≤ c1) := ⟨by have := HE2.out.cap; omega⟩
    have HZC : Aside0 (z.length ≤ c1 - n.toNat) := ⟨by have := HE2.out.cap; omega⟩
    have HG : Aside0 (wire_Read.f y = some (gl, ge)) := ⟨by rw [hy]; exact hg⟩
    have HQ : Aside0 (pack_Take.f z 1 = some (q1, b2, q3)) := ⟨by rw [hz]; exact hq⟩
    clear hF HF1 hd hn hb2 HE1 HX1 HW1 HS1 hg hq hy hz hy8 hz8 hA2 hi08 hsz8
    go_wp2_with fail
    refine (wire_Read.calls A1 c1 y gl ge _ (HY.out _ (But.refl _ _)) HYC.out HG.out).mono ?_
    rintro e w3 ⟨v3, rfl, hR3, hb3⟩
    obtain ⟨Ag, cg, rfl⟩ := Kd.R_slice hR3
    have ht3 : But (fun _ => False) _ w3 := But.of hb3
    have HE3 := Aside0.mk (HE2.out.next ht3 (fun _ h => h.elim) (fun h => h))
    have HX3 := Aside0.mk (HX2.out.next ht3 (fun _ h => h.elim) (fun h => h))
    have HS3 : Aside0 (∀ k, S k → k < w3.heap.size) := ⟨fun k hk => Nat.lt_of_lt_of_le (HS2.out k hk) hb3.size⟩
    have HZ3 : Aside0 (∀ W, But S w3 W → Kd.C (Kd.int .u8) W A2 z.length z) := ⟨fun W hW => HZ.out W ((But.of hb3).trans hW)⟩
    have HX4 := Aside0.mk (HX3.out.graph HC.out (row_new hR3 HS2.out (Nat.le_trans HA.out HB2.out.size)))
    have ht4 := But.cell w3 Bc 2 (.slice Ag gl.length cg)
    have HE4 := Aside0.mk (HE3.out.next ht4 (fun k hk => hk ▸ HC.out) HN.out)
    have HB4 : Aside0 (But (fun k => k = B ∨ k = Bc) w (w3.setCell ⟨Bc, 2, none⟩ (.slice Ag gl.length cg))) := ⟨((HB2.out.mono (fun _ => Or.inl)).trans (But.of hb3)).trans (ht4.mono (fun _ => Or.inr))⟩
    have HZ4 : Aside0 (∀ W, But S (w3.setCell ⟨Bc, 2, none⟩ (.slice Ag gl.length cg)) W → Kd.C (Kd.int .u8) W A2 z.length z) := ⟨fun W hW => HZ3.out W ((ht4.mono (fun k hk => hk ▸ HC.out)).trans hW)⟩
    have HE5 := Aside0.mk (HE4.out.left HB.out HZC.out HZ4.out)
    have ht5 := But.cell (w3.setCell ⟨Bc, 2, none⟩ (.slice Ag gl.length cg)) B 0 (.slice A2 z.length (c1 - n.toNat))
    have HX5 := Aside0.mk (HX4.out.next ht5 (fun k hk => hk ▸ HB.out) (fun e => HN.out e.symm))
    have HB5 := Aside0.mk (HB4.out.trans (ht5.mono (fun _ => Or.inl)))
    have HS5 : Aside0 (∀ k, S k → k < ((w3.setCell ⟨Bc, 2, none⟩ (.slice Ag gl.length cg)).setCell ⟨B, 0, none⟩ (.slice A2 z.length (c1 - n.toNat))).heap.size) := ⟨fun k hk => Nat.lt_of_lt_of_le (HS3.out k hk) (Nat.le_trans ht4.size ht5.size)⟩
    have e2 : w3.cell? ⟨Bc, 2, none⟩ = some vg := (blk_cell HX3.out.blk 2).trans rfl
    have e2f := blk_frozen HX3.out.blk 2
    have e0 : (w3.setCell ⟨Bc, 2, none⟩ (.slice Ag gl.length cg)).cell? ⟨B, 0, none⟩ = some (.slice A1 b1.length c1) := (blk_cell HE4.out.blk 0).trans rfl
    have e0f := blk_frozen HE4.out.blk 0
    clear ht3 ht4 ht5 hR3 hb3 HE2 HX2 HB2 HS2 HE3 HX3 HS3 HZ3 HX4 HE4 HB4 HZ4 HZ HY d0 c0 c1_ f1_ s1 hF
    go_wp2_with fail
    refine (eye_take.calls S B z false A2 (c1 - n.toNat) 1 q1 b2 q3 _ HS5.out HB.out HE5.out HQ.out).mono ?_
    rintro e w6 ⟨rfl, hb6, A6, c6, hE6⟩
    rw [Bool.false_or] at hE6
    have HE6 := Aside0.mk hE6
    have HX6 := Aside0.mk (HX5.out.next hb6 (fun k hk => hk ▸ HB.out) (fun e => HN.out e.symm))
    have HB6 := Aside0.mk (HB5.out.trans (hb6.mono (fun _ => Or.inl)))
    have HS6 : Aside0 (∀ k, S k → k < w6.heap.size) := ⟨fun k hk => Nat.lt_of_lt_of_le (HS5.out k hk) hb6.size⟩
    obtain ⟨g3, hg3⟩ : ∃ g3, (q3 != 0) = g3 := ⟨_, rfl⟩
    obtain ⟨gb, hgb⟩ : ∃ gb, (ge != 0) = gb := ⟨_, rfl⟩
    have HF3 := HF2
    rw [hg3, hgb] at HF3
    rw [hg3] at HE6
    have d1 : w6.cell? ⟨B, 1, none⟩ = some (.bool g3) := (blk_cell HE6.out.blk 1).trans rfl
    have d1f := blk_frozen HE6.out.blk 1
    have s6 : ∀ b, (w6.setCell ⟨B, 1, none⟩ (.bool b)).cell? ⟨B, 1, none⟩ = some (.bool b) := fun b => World.cell?_setCell_same _ _ _ d1
    clear hb6 hE6 HE5 HX5 HB5 HS5 hg3 HF2
    by_cases h0 : q1 = 0
    ·subst h0
     have hF := HF3.out
     simp only [if_true, Option.some.injEq, Prod.mk.injEq] at hF
     obtain ⟨rfl, rfl, rfl⟩ := hF
     have HE7 := Aside0.mk (HE6.out.wrong HB.out (g3 || gb))
     have ht7 := But.cell w6 B 1 (.bool (g3 || gb))
     have HX7 := Aside0.mk (HX6.out.next ht7 (fun k hk => hk ▸ HB.out) (fun e => HN.out e.symm))
     have HB7 := Aside0.mk (HB6.out.trans (ht7.mono (fun _ => Or.inl)))
     clear HE6 HX6 HB6 ht7 HF3
     cases g3 <;> cases gb <;>
     ·go_wp2_with fail
      go_end0
      exact ⟨rfl, HB7.out, _, _, _, _, _, HE7.out, HX7.out⟩
    ·have h0b : (q1 == 0) = false := beq_eq_false_iff_ne.mpr h0
     have hF := HF3.out
     rw [if_neg h0] at hF
     by_cases h1 : q1 = 1
     ·subst h1
      have h1b : ((1 : Int) == 1) = true := rfl
      simp only [if_true] at hF
      obtain ⟨⟨t1, t2, t3, t4⟩, hT, hF⟩ := Option.bind_eq_some_iff.mp hF
      simp only [Option.some.injEq, Prod.mk.injEq] at hF
      obtain ⟨rfl, rfl, rfl⟩ := hF
      obtain ⟨tb, htb⟩ : ∃ tb, (t4 != 0) = tb := ⟨_, rfl⟩
      have HTK := Aside0.mk hT
      have HTB := Aside0.mk htb
      have d0 : w6.cell? ⟨B, 0, none⟩ = some (.slice A6 b2.length c6) := (blk_cell HE6.out.blk 0).trans rfl
      clear h0 HF3 hT
      go_wp2_with fail
      refine (image_Take.calls k A6 c6 b2 t1 t2 t3 t4 _ (HE6.out.row _ (But.refl _ _)) HE6.out.cap HTK.out).mono ?_
      rintro e w7 ⟨v0, v1, v2, rfl, hR0, hR1, hR2, hb7⟩
      obtain ⟨As, cs, rfl⟩ := Kd.R_slice hR0
      obtain ⟨Ad, cd, rfl⟩ := Kd.R_slice hR1
      obtain ⟨A7, c7, rfl, hc7, hr7⟩ := row_stays hR2 HS6.out
      have HT7 := Aside0.mk (HX6.out.next (T := fun _ => False) (But.of hb7) (fun _ h => h.elim) (fun h => h))
      have HU7 := Aside0.mk (HE6.out.next (T := fun _ => False) (But.of hb7) (fun _ h => h.elim) (fun h => h))
      have k3 : w7.cell? ⟨Bc, 3, none⟩ = some vs := (blk_cell HT7.out.blk 3).trans rfl
      have k3f := blk_frozen HT7.out.blk 3
      have k4 : (w7.setCell ⟨Bc, 3, none⟩ (.slice As t1.length cs)).cell? ⟨Bc, 4, none⟩ = some vd := (blk_cell (blk_put HT7.out.blk 3 (.slice As t1.length cs) rfl) 4).trans rfl
      have k4f := blk_frozen (blk_put HT7.out.blk 3 (.slice As t1.length cs) rfl) 4
      have HX8 := Aside0.mk (HT7.out.tensor HC.out (row_new hR0 HS6.out (Nat.le_trans HA.out HB6.out.size)) (row_new hR1 HS6.out (Nat.le_trans HA.out HB6.out.size)))
      have hq7 : But (fun k => k = Bc) w7 ((w7.setCell ⟨Bc, 3, none⟩ (.slice As t1.length cs)).setCell ⟨Bc, 4, none⟩ (.slice Ad t2.length cd)) := (But.cell _ _ _ _).trans (But.cell _ _ _ _)
      have HE8 := Aside0.mk (HU7.out.next hq7 (fun k hk => hk ▸ HC.out) HN.out)
      have HB8 := Aside0.mk ((HB6.out.trans (But.of hb7)).trans (hq7.mono (fun _ => Or.inr)))
      have k0 : ((w7.setCell ⟨Bc, 3, none⟩ (.slice As t1.length cs)).setCell ⟨Bc, 4, none⟩ (.slice Ad t2.length cd)).cell? ⟨B, 0, none⟩ = some (.slice A6 b2.length c6) := (blk_cell HE8.out.blk 0).trans rfl
      have k0f := blk_frozen HE8.out.blk 0
      have HE9 := Aside0.mk (HE8.out.left HB.out hc7 (fun W hW => hr7 W ((hq7.mono (fun k hk => hk ▸ HC.out)).trans hW)))
      have hq8 := But.cell ((w7.setCell ⟨Bc, 3, none⟩ (.slice As t1.length cs)).setCell ⟨Bc, 4, none⟩ (.slice Ad t2.length cd)) B 0 (.slice A7 t3.length c7)
      have HX9 := Aside0.mk (HX8.out.next hq8 (fun k hk => hk ▸ HB.out) (fun e => HN.out e.symm))
      have HB9 := Aside0.mk (HB8.out.trans (hq8.mono (fun _ => Or.inl)))
      clear hR0 hR1 hR2 hb7 hc7 hr7 HT7 HU7 HX8 hq7 HE8 HB8 hq8 d0 e0 e2 e0f e2f d1 d1f s6
      go_upto_region 11 with fail
      generalize World.setCell (World.setCell (World.setCell w7 _ _) _ _) _ _ = W9 at HE9 HX9 HB9 ⊢
      have d1 : W9.cell? ⟨B, 1, none⟩ = some (.bool g3) := (blk_cell HE9.out.blk 1).trans rfl
      have d1f := blk_frozen HE9.out.blk 1
      have HEA := Aside0.mk (HE9.out.wrong HB.out ((g3 || gb) || tb))
      have htA := But.cell W9 B 1 (.bool ((g3 || gb) || tb))
      have HXA := Aside0.mk (HX9.out.next htA (fun k hk => hk ▸ HB.out) (fun e => HN.out e.symm))
      have HBA := Aside0.mk (HB9.out.trans (htA.mono (fun _ => Or.inl)))
      have HFIN : Aside0 (EyeS (W9.setCell ⟨B, 1, none⟩ (.bool ((g3 || gb) || tb))) S B t3 (g3 || gb || t4 != 0) A7 c7) := ⟨by rw [htb]; exact HEA.out⟩
      clear HE9 HX9 HB9 htA HEA HE6 HX6 HB6 k3 k3f k4 k4f k0 k0f
      cases g3 with
      | true =>
       go_wp2_with fail
       go_end0
       exact ⟨rfl, HBA.out, _, _, _, _, _, HFIN.out, HXA.out⟩
      | false => cases gb with
       | true =>
        go_wp2_with fail
        go_end0
        exact ⟨rfl, HBA.out, _, _, _, _, _, HFIN.out, HXA.out⟩
       | false =>
        go_wp2_with fail
        go_end0
        exact ⟨rfl, HBA.out, _, _, _, _, _, HFIN.out, HXA.out⟩
     ·have h1b : (q1 == 1) = false := beq_eq_false_iff_ne.mpr h1
      rw [if_neg h1] at hF
      simp only [Option.some.injEq, Prod.mk.injEq] at hF
      obtain ⟨rfl, rfl, rfl⟩ := hF
      clear h0 h1
      go_wp2_with fail
      have HE7 := Aside0.mk ((HE6.out.wrong HB.out true).wrong HB.out true)
      have ht7 := (But.cell w6 B 1 (.bool true)).trans (But.cell (w6.setCell ⟨B, 1, none⟩ (.bool true)) B 1 (.bool true))
      go_end0
      exact ⟨rfl, HB6.out.trans (ht7.mono (fun _ => Or.inl)), _, _, _, _, _, HE7.out, HX6.out.next ht7 (fun k hk => hk ▸ HB.out) (fun e => HN.out e.symm)⟩
   ·rw [if_neg hn] at hF; cases hF
theorem But.fresh {S : Nat → Prop} {w W : World} {o : Obj} (h : But (fun k => S k ∨ k = w.heap.size) (w.alloc o) W) : But S w W :=
 have ha := below_alloc (Below.refl w.heap.size w) o
 ⟨h.os.trans ha.os, h.tape.trans ha.tape, h.output.trans ha.output, Nat.le_trans ha.size h.size, fun k hk hn => (h.block k (Nat.lt_of_lt_of_le hk ha.size) (fun hs => hs.elim hn (fun e => by omega))).trans (ha.block k hk)⟩
theorem EyeS.fresh {w : World} {S : Nat → Prop} {B : Nat} {l : List Int} {wr : Bool} {A : Option Addr} {c : Nat} (h : EyeS w S B l wr A c) (o : Obj) : EyeS (w.alloc o) (fun k => S k ∨ k = w.heap.size) B l wr A c :=
 ⟨blk_alloc h.blk o, h.cap, fun W hW => h.row W (But.fresh hW)⟩
theorem EyeS.less {w : World} {S T : Nat → Prop} {B : Nat} {l : List Int} {wr : Bool} {A : Option Addr} {c : Nat} (h : EyeS w S B l wr A c) (hT : ∀ k, T k → S k) : EyeS w T B l wr A c := ⟨h.blk, h.cap, fun W hW => h.row W (hW.mono hT)⟩
theorem CmdS.zero (w : World) (S : Nat → Prop) (base : Nat) : CmdS (w.alloc (.cells #[.int .i64 0, .int .i64 0, .slice none 0 0, .slice none 0 0, .slice none 0 0, .int .i64 0, .int .i64 0, .int .i64 0, .int .i64 0, .int .i64 0, .int .i64 0] 30)) S base w.heap.size z30 (.slice none 0 0) (.slice none 0 0) (.slice none 0 0) :=
 ⟨blk_new _ _, Kd.R_nil _ _ _ _ _, Kd.R_nil _ _ _ _ _, Kd.R_nil _ _ _ _ _⟩
theorem CmdS.num {w : World} {S : Nat → Prop} {base Bc : Nat} {x y : S30} {vg vs vd : Value} (h : CmdS w S base Bc x vg vs vd) (hC : S Bc) (j : Nat) (n : Int)
  (e : (#[.int .i64 x.f0, .int .i64 x.f1, vg, vs, vd, .int .i64 x.f4.f0, .int .i64 x.f4.f1, .int .i64 x.f4.f2, .int .i64 x.f4.f3, .int .i64 x.f5, .int .i64 x.f6] : Array Value).setIfInBounds j (.int .i64 n) = #[.int .i64 y.f0, .int .i64 y.f1, vg, vs, vd, .int .i64 y.f4.f0, .int .i64 y.f4.f1, .int .i64 y.f4.f2, .int .i64 y.f4.f3, .int .i64 y.f5, .int .i64 y.f6])
  (e2 : x.f2 = y.f2) (e3 : x.f3 = y.f3) : CmdS (w.setCell ⟨Bc, j, none⟩ (.int .i64 n)) S base Bc y vg vs vd :=
 have hb : But S w (w.setCell ⟨Bc, j, none⟩ (.int .i64 n)) := (But.refl S w).set (p := ⟨Bc, j, none⟩) (.inl hC) _
 ⟨blk_put h.blk j _ e, e2 ▸ R_but h.g hb (fun _ hk => hk), e3 ▸ R_but h.s hb (fun _ hk => hk), e3 ▸ R_but h.d hb (fun _ hk => hk)⟩
def tk (size : Int) (s : List Int × Bool) : Option (Int × List Int × Bool) := (pack_Take.f s.1 size).bind fun p => some (p.1, p.2.1, s.2 || p.2.2 != 0)
def tkRest : Nat → List Int × Bool → S28 → Option (List Int × Bool × S28)
 | 0, s, o => some (s.1, s.2, o)
 | m + 1, s, o => (tk 8 s).bind fun a => tkRest m a.2 (if m = 2 then ⟨o.f0, a.1, o.f2, o.f3⟩ else if m = 1 then ⟨o.f0, o.f1, a.1, o.f3⟩ else ⟨o.f0, o.f1, o.f2, a.1⟩)
def eyeCmd (k : Nat) (l : List Int) (wr : Bool) : Option (List Int × Bool × S30) :=
 (tk 1 (l, wr)).bind fun a => (if 2 ≤ a.1 ∧ a.1 ≤ 5 then tk 1 a.2 else some (0, a.2)).bind fun s =>
  if a.1 = 2 then eyeLoad k s.2.1 s.2.2 ⟨a.1, s.1, [], ⟨[], []⟩, ⟨0, 0, 0, 0⟩, 0, 0⟩
  else if a.1 = 3 then (tk 1 s.2).bind fun o => (tkRest 3 o.2 ⟨o.1, 0, 0, 0⟩).bind fun r => (tk 1 (r.1, r.2.1)).bind fun u => some (u.2.1, u.2.2, ⟨a.1, s.1, [], ⟨[], []⟩, r.2.2, u.1, 0⟩)
  else if a.1 = 8 then (tk 1 s.2).bind fun u => some (u.2.1, u.2.2, ⟨a.1, s.1, [], ⟨[], []⟩, ⟨0, 0, 0, 0⟩, 0, u.1⟩)
  else some (s.2.1, s.2.2, ⟨a.1, s.1, [], ⟨[], []⟩, ⟨0, 0, 0, 0⟩, 0, 0⟩)
structure CmdI (w W : World) (S : Nat → Prop) (B base : Nat) (l : List Int) (wr : Bool) (x : S30) (A : Option Addr) (c : Nat) (vg vs vd : Value) : Prop where
 sB : S B
 lt : ∀ k, S k → k < w.heap.size
 eye : EyeS W (fun k => S k ∨ k = w.heap.size) B l wr A c
 cmd : CmdS W (fun k => S k ∨ k = w.heap.size) base w.heap.size x vg vs vd
 but : But (fun k => k = B) w W
theorem CmdI.ltB {w W : World} {S : Nat → Prop} {B base : Nat} {l : List Int} {wr : Bool} {x : S30} {A : Option Addr} {c : Nat} {vg vs vd : Value} (h : CmdI w W S B base l wr x A c vg vs vd) : B < w.heap.size := h.lt B h.sB
theorem CmdI.size {w W : World} {S : Nat → Prop} {B base : Nat} {l : List Int} {wr : Bool} {x : S30} {A : Option Addr} {c : Nat} {vg vs vd : Value} (h : CmdI w W S B base l wr x A c vg vs vd) : ∀ k, (S k ∨ k = w.heap.size) → k < W.heap.size := fun k hk => by
 have h2 := blk_lt h.cmd.blk
 have h3 := h.but.size
 rcases hk with hk | rfl
 ·have := h.lt k hk; omega
 ·exact h2
theorem CmdI.start {w : World} {S : Nat → Prop} {B base : Nat} {l : List Int} {wr : Bool} {A : Option Addr} {c : Nat} (h : EyeS w S B l wr A c) (hB : S B) (hS : ∀ k, S k → k < w.heap.size) : CmdI w (w.alloc (.cells #[.int .i64 0, .int .i64 0, .slice none 0 0, .slice none 0 0, .slice none 0 0, .int .i64 0, .int .i64 0, .int .i64 0, .int .i64 0, .int .i64 0, .int .i64 0] 30)) S B base l wr z30 A c (.slice none 0 0) (.slice none 0 0) (.slice none 0 0) :=
 ⟨hB, hS, h.fresh _, CmdS.zero _ _ _, But.of (below_alloc (Below.refl _ _) _)⟩
theorem CmdI.took {w W W1 : World} {S : Nat → Prop} {B base : Nat} {l l1 : List Int} {wr wr1 : Bool} {x y : S30} {A A1 : Option Addr} {c c1 : Nat} {vg vs vd : Value} (h : CmdI w W S B base l wr x A c vg vs vd) (hb : But (fun k => k = B) W W1) (he : EyeS W1 (fun k => S k ∨ k = w.heap.size) B l1 wr1 A1 c1) (j : Nat) (n : Int)
  (e : (#[.int .i64 x.f0, .int .i64 x.f1, vg, vs, vd, .int .i64 x.f4.f0, .int .i64 x.f4.f1, .int .i64 x.f4.f2, .int .i64 x.f4.f3, .int .i64 x.f5, .int .i64 x.f6] : Array Value).setIfInBounds j (.int .i64 n) = #[.int .i64 y.f0, .int .i64 y.f1, vg, vs, vd, .int .i64 y.f4.f0, .int .i64 y.f4.f1, .int .i64 y.f4.f2, .int .i64 y.f4.f3, .int .i64 y.f5, .int .i64 y.f6] := by rfl)
  (e2 : x.f2 = y.f2 := by rfl) (e3 : x.f3 = y.f3 := by rfl) : CmdI w (W1.setCell ⟨w.heap.size, j, none⟩ (.int .i64 n)) S B base l1 wr1 y A1 c1 vg vs vd :=
 have hlt := h.ltB
 have ht := But.cell W1 w.heap.size j (.int .i64 n)
 ⟨h.sB, h.lt, he.next ht (fun k hk => .inr hk) (fun e => by omega), (h.cmd.next hb (fun k hk => .inl (hk ▸ h.sB)) (fun e => by omega)).num (.inr rfl) j n e e2 e3,
  (h.but.trans hb).set (p := ⟨w.heap.size, j, none⟩) (.inr (Nat.le_refl _)) _⟩
theorem CmdI.load {w W W1 : World} {S : Nat → Prop} {B base : Nat} {l l1 : List Int} {wr wr1 : Bool} {x y : S30} {A A1 : Option Addr} {c c1 : Nat} {vg vs vd vg1 vs1 vd1 : Value} (h : CmdI w W S B base l wr x A c vg vs vd) (hb : But (fun k => k = B ∨ k = w.heap.size) W W1) (he : EyeS W1 (fun k => S k ∨ k = w.heap.size) B l1 wr1 A1 c1) (hx : CmdS W1 (fun k => S k ∨ k = w.heap.size) base w.heap.size y vg1 vs1 vd1) : CmdI w W1 S B base l1 wr1 y A1 c1 vg1 vs1 vd1 :=
 ⟨h.sB, h.lt, he, hx, hb.os.trans h.but.os, hb.tape.trans h.but.tape, hb.output.trans h.but.output, Nat.le_trans h.but.size hb.size, fun k hk hn => (hb.block k (Nat.lt_of_lt_of_le hk h.but.size) (fun e => e.elim hn (fun e => by omega))).trans (h.but.block k hk hn)⟩
theorem CmdI.alloc {w W : World} {S : Nat → Prop} {B base : Nat} {l : List Int} {wr : Bool} {x : S30} {A : Option Addr} {c : Nat} {vg vs vd : Value} (h : CmdI w W S B base l wr x A c vg vs vd) (o : Obj) : CmdI w (W.alloc o) S B base l wr x A c vg vs vd :=
 have hb : But (fun _ => False) W (W.alloc o) := But.of (below_alloc (Below.refl _ _) o)
 ⟨h.sB, h.lt, h.eye.next hb (fun _ h => h.elim) (fun h => h), h.cmd.next hb (fun _ h => h.elim) (fun h => h), h.but.trans (hb.mono (fun _ h => h.elim))⟩
theorem CmdI.cells {w W : World} {S : Nat → Prop} {B base : Nat} {l : List Int} {wr : Bool} {x : S30} {A : Option Addr} {c : Nat} {vg vs vd : Value} (h : CmdI w W S B base l wr x A c vg vs vd) :
  W.cell? ⟨w.heap.size, 0, none⟩ = some (.int .i64 x.f0) ∧ W.cell? ⟨w.heap.size, 1, none⟩ = some (.int .i64 x.f1) ∧ W.cell? ⟨w.heap.size, 2, none⟩ = some vg ∧ W.cell? ⟨w.heap.size, 3, none⟩ = some vs ∧ W.cell? ⟨w.heap.size, 4, none⟩ = some vd ∧ W.cell? ⟨w.heap.size, 5, none⟩ = some (.int .i64 x.f4.f0) ∧ W.cell? ⟨w.heap.size, 6, none⟩ = some (.int .i64 x.f4.f1) ∧ W.cell? ⟨w.heap.size, 7, none⟩ = some (.int .i64 x.f4.f2) ∧ W.cell? ⟨w.heap.size, 8, none⟩ = some (.int .i64 x.f4.f3) ∧ W.cell? ⟨w.heap.size, 9, none⟩ = some (.int .i64 x.f5) ∧ W.cell? ⟨w.heap.size, 10, none⟩ = some (.int .i64 x.f6) ∧ ∀ j, W.frozen? ⟨w.heap.size, j, none⟩ = false :=
 have hc := fun j => blk_cell h.cmd.blk j
 ⟨(hc 0).trans rfl, (hc 1).trans rfl, (hc 2).trans rfl, (hc 3).trans rfl, (hc 4).trans rfl, (hc 5).trans rfl, (hc 6).trans rfl, (hc 7).trans rfl, (hc 8).trans rfl, (hc 9).trans rfl, (hc 10).trans rfl, fun j => blk_frozen h.cmd.blk j⟩
theorem CmdI.at {w W W1 : World} {S : Nat → Prop} {B base : Nat} {l : List Int} {wr : Bool} {x : S30} {A : Option Addr} {c : Nat} {vg vs vd : Value} (h : CmdI w W S B base l wr x A c vg vs vd) (hb : But (fun k => k = B) W W1) (j : Nat) (hj : j < 11) : ∃ v, W1.cell? ⟨w.heap.size, j, none⟩ = some v ∧ W1.frozen? ⟨w.heap.size, j, none⟩ = false :=
 have hc := (h.cmd.next hb (fun k hk => .inl (hk ▸ h.sB)) (fun e => by have := h.ltB; omega)).blk
 ⟨_, (blk_cell hc j).trans (Array.getElem?_eq_getElem (by simpa using hj)), blk_frozen hc j⟩
theorem setCell_self {w : World} {g : Nat} {cs : Array Value} {t : TypeId} (h : w.heap[g]? = some (.cells cs t (0, 0))) (j : Nat) (v : Value) (e : cs[j]? = some v) : w.setCell ⟨g, j, none⟩ v = w := by
 rw [setCell_eq_setRow w g j cs t (0, 0) v h]
 have : cs.setIfInBounds j v = cs := by
  apply Array.ext_getElem?
  intro k
  by_cases hk : j = k
  ·subst hk
   obtain ⟨hl, hv⟩ := Array.getElem?_eq_some_iff.1 e
   rw [Array.getElem?_setIfInBounds_self_of_lt hl, e]
  ·rw [Array.getElem?_setIfInBounds_ne hk]
 rw [this]
 exact setRow_self w g cs t (0, 0) h
theorem CmdI.self {w W : World} {S : Nat → Prop} {B base : Nat} {l : List Int} {wr : Bool} {x : S30} {A : Option Addr} {c : Nat} {vg vs vd : Value} (h : CmdI w W S B base l wr x A c vg vs vd) :
  W.setCell ⟨w.heap.size, 0, none⟩ (.int .i64 x.f0) = W ∧ W.setCell ⟨w.heap.size, 1, none⟩ (.int .i64 x.f1) = W ∧ W.setCell ⟨w.heap.size, 2, none⟩ vg = W ∧ W.setCell ⟨w.heap.size, 3, none⟩ vs = W ∧ W.setCell ⟨w.heap.size, 4, none⟩ vd = W ∧ W.setCell ⟨w.heap.size, 5, none⟩ (.int .i64 x.f4.f0) = W ∧ W.setCell ⟨w.heap.size, 6, none⟩ (.int .i64 x.f4.f1) = W ∧ W.setCell ⟨w.heap.size, 7, none⟩ (.int .i64 x.f4.f2) = W ∧ W.setCell ⟨w.heap.size, 8, none⟩ (.int .i64 x.f4.f3) = W ∧ W.setCell ⟨w.heap.size, 9, none⟩ (.int .i64 x.f5) = W ∧ W.setCell ⟨w.heap.size, 10, none⟩ (.int .i64 x.f6) = W :=
 have hc := setCell_self h.cmd.blk
 ⟨hc 0 _ rfl, hc 1 _ rfl, hc 2 _ rfl, hc 3 _ rfl, hc 4 _ rfl, hc 5 _ rfl, hc 6 _ rfl, hc 7 _ rfl, hc 8 _ rfl, hc 9 _ rfl, hc 10 _ rfl⟩
theorem results_c {P : Program} {fn : Func} {p : Tmp} {ty : TypeId} (h : fn.results = #[.cell p ty]) (tmps : Array Value) (w : World) (g : Nat) (t : TypeId) (cs : Array Value) (fr : Nat × Nat) (d : TypeDesc)
  (hp : tmps.getD p undef = .pointer (some ⟨g, 0, none⟩)) (hg : w.heap[g]? = some (.cells cs t fr))
  (hu : P.underlying ty = some d) (hd : (match d with | .struct _ | .array _ _ => true | _ => false) = true) (hi : (P.info? ty).map (·.size) = some cs.size) :
  (results fn tmps).run P w = .ok (.agg cs) w := by
 have hp' : tmps[p]?.getD undef = .pointer (some ⟨g, 0, none⟩) := by simpa using hp
 simp [results, h, hp', asAddr, run_loadVar_row w g t ty cs fr d hg hu hd hi]
theorem eye_tk.calls (S : Nat → Prop) (B : Nat) (l : List Int) (wr : Bool) (A : Option Addr) (c : Nat) (size n : Int) (rest : List Int) (wr' : Bool) (w : World) (hS : ∀ k, S k → k < w.heap.size) (hB : S B) (hE : EyeS w S B l wr A c) (h : tk size (l, wr) = some (n, rest, wr')) :
  Calls Try.prog 46 #[.pointer (some ⟨B, 0, none⟩), .int .i64 size] w fun e w' => e = .returned (.int .i64 n) ∧ But (fun k => k = B) w w' ∧ ∃ A' c', EyeS w' S B rest wr' A' c' := by
 unfold tk at h
 obtain ⟨⟨n1, r1, f1⟩, hp, h⟩ := Option.bind_eq_some_iff.mp h
 simp only [Option.some.injEq, Prod.mk.injEq] at h
 obtain ⟨rfl, rfl, rfl⟩ := h
 exact eye_take.calls S B l wr A c size n1 r1 f1 w hS hB hE hp
set_option maxHeartbeats 8000000 in
set_option maxRecDepth 100000 in
theorem eye_cmd.calls (k : Nat) (S : Nat → Prop) (B base : Nat) (l : List Int) (wr : Bool) (A : Option Addr) (c : Nat) (l' : List Int) (wr' : Bool) (x' : S30) (w : World)
  (hbase : base ≤ w.heap.size) (hB : S B) (hS : ∀ k, S k → k < w.heap.size) (hE : EyeS w S B l wr A c) (h : eyeCmd k l wr = some (l', wr', x')) :
  Calls Try.prog 26 #[.pointer (some ⟨B, 0, none⟩)] w fun e w' => But (fun k => k = B) w w' ∧ ∃ A' c' vg vs vd, e = .returned (.agg #[.int .i64 x'.f0, .int .i64 x'.f1, vg, vs, vd, .int .i64 x'.f4.f0, .int .i64 x'.f4.f1, .int .i64 x'.f4.f2, .int .i64 x'.f4.f3, .int .i64 x'.f5, .int .i64 x'.f6]) ∧
   EyeS w' S B l' wr' A' c' ∧ Kd.R k48 48 w' base (fun k => ¬ S k) vg x'.f2 ∧ Kd.R (Kd.int .i64) 3 w' base (fun k => ¬ S k) vs x'.f3.f0 ∧ Kd.R (Kd.int .i64) 3 w' base (fun k => ¬ S k) vd x'.f3.f1 := by
 unfold eyeCmd at h
 obtain ⟨⟨n1, l1, wr1⟩, hp1, h⟩ := Option.bind_eq_some_iff.mp h
 obtain ⟨⟨n2, l2, wr2⟩, hp2, h⟩ := Option.bind_eq_some_iff.mp h
 have HP1 := Aside0.mk hp1
 have HP2 := Aside0.mk hp2
 have HF := Aside0.mk h
 have HI := Aside0.mk (CmdI.start (base := base) hE hB hS)
 have HSB := Aside0.mk hB
 have HBS := Aside0.mk hbase
 clear h hp1 hp2 hE hbase hB hS
 go_enter Try.func26, Try.ntmps26
 go_wp2_with fail
 refine (eye_tk.calls _ B l wr A c 1 n1 l1 wr1 _ HI.out.size (.inl HSB.out) HI.out.eye HP1.out).mono ?_
 rintro e w1 ⟨rfl, hb1, A1, c1, hE1⟩
 have HI1 := Aside0.mk (HI.out.took (y := ⟨n1, 0, [], ⟨[], []⟩, ⟨0, 0, 0, 0⟩, 0, 0⟩) hb1 hE1 0 n1)
 obtain ⟨u0, x0, x0f⟩ := HI.out.at hb1 0 (by decide)
 clear hb1 hE1 HP1 HI
 by_cases hr : 2 ≤ n1 ∧ n1 ≤ 5
 ·have d1 : decide (2 ≤ n1) = true := decide_eq_true hr.1
  have d2 : decide (n1 ≤ 5) = true := decide_eq_true hr.2
  have hp2 := HP2.out
  rw [if_pos hr] at hp2
  have HP3 := Aside0.mk hp2
  clear hp2 HP2
  obtain ⟨y0, _, _, _, _, _, _, _, _, _, _, yf⟩ := HI1.out.cells
  go_wp2_with fail
  refine (eye_tk.calls _ B l1 wr1 A1 c1 1 n2 l2 wr2 _ HI1.out.size (.inl HSB.out) HI1.out.eye HP3.out).mono ?_
  rintro e w2 ⟨rfl, hb2, A2, c2, hE2⟩
  have HI2 := Aside0.mk (HI1.out.took (y := ⟨n1, n2, [], ⟨[], []⟩, ⟨0, 0, 0, 0⟩, 0, 0⟩) hb2 hE2 1 n2)
  obtain ⟨u1, x1, x1f⟩ := HI1.out.at hb2 1 (by decide)
  obtain ⟨w0_, _, _, _, _, _, _, _, _, _, _, wf_⟩ := HI2.out.cells
  clear hb2 hE2 HP3 HI1
  by_cases h2 : n1 = 2
  ·subst h2
   clear hr d1 d2
   have hF := HF.out
   simp only [if_true] at hF
   have HL := Aside0.mk hF
   clear hF HF
   go_wp2_with fail
   refine (eye_load.calls k _ B w.heap.size base l2 wr2 A2 c2 ⟨2, n2, [], ⟨[], []⟩, ⟨0, 0, 0, 0⟩, 0, 0⟩ _ _ _ l' wr' x' _ HI2.out.size (.inl HSB.out) (.inr rfl) (Nat.ne_of_lt HI2.out.ltB) (Nat.le_trans HBS.out HI2.out.but.size) HI2.out.eye HI2.out.cmd HL.out).mono ?_
   rintro e w3 ⟨rfl, hb3, A3, c3, vg, vs, vd, hE3, hX3⟩
   have HI3 := Aside0.mk (HI2.out.load hb3 hE3 hX3)
   obtain ⟨_, _, rfl⟩ := Kd.R_slice hX3.g
   obtain ⟨_, _, rfl⟩ := Kd.R_slice hX3.s
   obtain ⟨_, _, rfl⟩ := Kd.R_slice hX3.d
   clear hb3 hE3 hX3
   go_upto_region 17 with fail
   obtain ⟨z0, z1, z2, z3, z4, z5, z6, z7, z8, z9, z10, zf⟩ := HI3.out.cells
   obtain ⟨q0, q1, q2, q3, q4, q5, q6, q7, q8, q9, q10⟩ := HI3.out.self
   go_wp2_with fail
   refine bodyPost_ret (results_c rfl _ _ w.heap.size 30 _ (0, 0) _ rfl HI3.out.cmd.blk Try.underlying30 rfl (by kernel_rfl)) rfl ?_
   exact ⟨HI3.out.but, _, _, _, _, _, rfl, HI3.out.eye.less (fun _ h => .inl h), Kd.R_mono HI3.out.cmd.g (fun k hk e => hk (.inl e)), Kd.R_mono HI3.out.cmd.s (fun k hk e => hk (.inl e)), Kd.R_mono HI3.out.cmd.d (fun k hk e => hk (.inl e))⟩
  ·by_cases h3 : n1 = 3
   ·subst h3
    clear hr d1 d2
    have hF := HF.out
    simp only [if_neg h2, if_true] at hF
    obtain ⟨⟨n3, l3, wr3⟩, hp3, hF⟩ := Option.bind_eq_some_iff.mp hF
    obtain ⟨⟨r1, r2, r3⟩, hp4, hF⟩ := Option.bind_eq_some_iff.mp hF
    obtain ⟨⟨n7, l7, wr7⟩, hp7, hF⟩ := Option.bind_eq_some_iff.mp hF
    simp only [Option.some.injEq, Prod.mk.injEq] at hF
    obtain ⟨rfl, rfl, rfl⟩ := hF
    have HP3 := Aside0.mk hp3
    have HP4 := Aside0.mk hp4
    have HP7 := Aside0.mk hp7
    clear hp3 hp4 hp7 HF h2
    go_wp2_with fail
    refine (eye_tk.calls _ B l2 wr2 A2 c2 1 n3 l3 wr3 _ HI2.out.size (.inl HSB.out) HI2.out.eye HP3.out).mono ?_
    rintro e w3 ⟨rfl, hb3, A3, c3, hE3⟩
    have HI3 := Aside0.mk (HI2.out.took (y := ⟨3, n2, [], ⟨[], []⟩, ⟨n3, 0, 0, 0⟩, 0, 0⟩) hb3 hE3 5 n3)
    obtain ⟨u3, x3, x3f⟩ := HI2.out.at hb3 5 (by decide)
    clear hb3 hE3 HP3 HI2
    go_wp2_with fail
    have HPB := Aside0.mk (blk_new (w3.setCell ⟨w.heap.size, 5, none⟩ (.int .i64 n3)) (.cells #[.pointer (some ⟨w.heap.size, 6, none⟩), .pointer (some ⟨w.heap.size, 7, none⟩), .pointer (some ⟨w.heap.size, 8, none⟩)] 77))
    have HI4 := Aside0.mk (HI3.out.alloc (.cells #[.pointer (some ⟨w.heap.size, 6, none⟩), .pointer (some ⟨w.heap.size, 7, none⟩), .pointer (some ⟨w.heap.size, 8, none⟩)] 77))
    have HPN : Aside0 ((w3.setCell ⟨w.heap.size, 5, none⟩ (.int .i64 n3)).heap.size ≠ B ∧ (w3.setCell ⟨w.heap.size, 5, none⟩ (.int .i64 n3)).heap.size ≠ w.heap.size) := ⟨by have h1 := HI3.out.size B (.inl HSB.out); omega, by have h1 := HI3.out.size _ (.inr rfl); omega⟩
    rw [show (w3.setCell ⟨w.heap.size, 5, none⟩ (.int .i64 n3)).heap.size = w3.heap.size by simp] at HPB HPN
    generalize World.alloc _ _ = W4 at HPB HI4 ⊢
    generalize w3.heap.size = P at HPB HPN ⊢
    clear HI3 x3 x3f x1 x1f w0_ wf_ y0 yf x0 x0f
    go_loopg [4, 39] 4 (fun gg s4 s39 wr => ∃ (i : Nat) (l1 : List Int) (wr1 : Bool) (o : S28) (A1 : Option Addr) (c1 : Nat), s39 = .int .i64 (i : Int) ∧ Aside0 (i ≤ 3 ∧ 3 - i < gg) ∧ Aside0 (CmdI w wr S B base l1 wr1 ⟨3, n2, [], ⟨[], []⟩, o, 0, 0⟩ A1 c1 (.slice none 0 0) (.slice none 0 0) (.slice none 0 0)) ∧ Aside0 (wr.heap[P]? = some (.cells #[.pointer (some ⟨w.heap.size, 6, none⟩), .pointer (some ⟨w.heap.size, 7, none⟩), .pointer (some ⟨w.heap.size, 8, none⟩)] 77)) ∧ Aside0 (tkRest (3 - i) (l1, wr1) o = some (r1, r2, r3)))
    case atStart => exact ⟨0, l3, wr3, ⟨n3, 0, 0, 0⟩, A3, c3, rfl, ⟨by omega, by omega⟩, HI4, HPB, HP4⟩
    case round =>
     clear HI4 HPB HP4
     obtain ⟨i, l1, wr1, o, A1, c1, rfl, HM, HJ, HPB, HH⟩ := hrel
     obtain ⟨hi1, hi2⟩ := HM.out
     have hi : i = 0 ∨ i = 1 ∨ i = 2 ∨ i = 3 := by omega
     clear hi1
     rcases hi with rfl | rfl | rfl | rfl
     ·have hF := HH.out
      rw [tkRest] at hF
      obtain ⟨⟨n4, l4, wr4⟩, hp4, hF⟩ := Option.bind_eq_some_iff.mp hF
      have HP4 := Aside0.mk hp4
      have HH4 := Aside0.mk hF
      have v0 : wr.cell? ⟨P, 0, none⟩ = some (.pointer (some ⟨w.heap.size, 6, none⟩)) := (blk_cell HPB.out 0).trans rfl
      clear hp4 hF
      go_wp2_with fail
      refine (eye_tk.calls _ B l1 wr1 A1 c1 8 n4 l4 wr4 _ HJ.out.size (.inl HSB.out) HJ.out.eye HP4.out).mono ?_
      rintro e w5 ⟨rfl, hb5, A5, c5, hE5⟩
      have HJ5 := Aside0.mk (HJ.out.took (y := ⟨3, n2, [], ⟨[], []⟩, ⟨o.f0, n4, o.f2, o.f3⟩, 0, 0⟩) hb5 hE5 6 n4)
      obtain ⟨u5, x5, x5f⟩ := HJ.out.at hb5 6 (by decide)
      have HP5 := Aside0.mk ((hb5.block P (blk_lt HPB.out) HPN.out.1).trans HPB.out)
      have HP6 : Aside0 ((w5.setCell ⟨w.heap.size, 6, none⟩ (.int .i64 n4)).heap[P]? = _) := ⟨(Below.heap_setCell w5 ⟨w.heap.size, 6, none⟩ (.int .i64 n4) P HPN.out.2).trans HP5.out⟩
      clear hb5 hE5
      go_wp2_with fail
      go_roundg (3 - 0)
      case measure => have := HM.out; omega
      case rel => exact ⟨1, l4, wr4, ⟨o.f0, n4, o.f2, o.f3⟩, A5, c5, rfl, ⟨by omega, by omega⟩, HJ5, HP6, ⟨HH4.out⟩⟩
     ·have hF := HH.out
      rw [tkRest] at hF
      obtain ⟨⟨n4, l4, wr4⟩, hp4, hF⟩ := Option.bind_eq_some_iff.mp hF
      have HP4 := Aside0.mk hp4
      have HH4 := Aside0.mk hF
      have v0 : wr.cell? ⟨P, 1, none⟩ = some (.pointer (some ⟨w.heap.size, 7, none⟩)) := (blk_cell HPB.out 1).trans rfl
      clear hp4 hF
      go_wp2_with fail
      refine (eye_tk.calls _ B l1 wr1 A1 c1 8 n4 l4 wr4 _ HJ.out.size (.inl HSB.out) HJ.out.eye HP4.out).mono ?_
      rintro e w5 ⟨rfl, hb5, A5, c5, hE5⟩
      have HJ5 := Aside0.mk (HJ.out.took (y := ⟨3, n2, [], ⟨[], []⟩, ⟨o.f0, o.f1, n4, o.f3⟩, 0, 0⟩) hb5 hE5 7 n4)
      obtain ⟨u5, x5, x5f⟩ := HJ.out.at hb5 7 (by decide)
      have HP5 := Aside0.mk ((hb5.block P (blk_lt HPB.out) HPN.out.1).trans HPB.out)
      have HP6 : Aside0 ((w5.setCell ⟨w.heap.size, 7, none⟩ (.int .i64 n4)).heap[P]? = _) := ⟨(Below.heap_setCell w5 ⟨w.heap.size, 7, none⟩ (.int .i64 n4) P HPN.out.2).trans HP5.out⟩
      clear hb5 hE5
      go_wp2_with fail
      go_roundg (3 - 1)
      case measure => have := HM.out; omega
      case rel => exact ⟨2, l4, wr4, ⟨o.f0, o.f1, n4, o.f3⟩, A5, c5, rfl, ⟨by omega, by omega⟩, HJ5, HP6, ⟨HH4.out⟩⟩
     ·have hF := HH.out
      rw [tkRest] at hF
      obtain ⟨⟨n4, l4, wr4⟩, hp4, hF⟩ := Option.bind_eq_some_iff.mp hF
      have HP4 := Aside0.mk hp4
      have HH4 := Aside0.mk hF
      have v0 : wr.cell? ⟨P, 2, none⟩ = some (.pointer (some ⟨w.heap.size, 8, none⟩)) := (blk_cell HPB.out 2).trans rfl
      clear hp4 hF
      go_wp2_with fail
      refine (eye_tk.calls _ B l1 wr1 A1 c1 8 n4 l4 wr4 _ HJ.out.size (.inl HSB.out) HJ.out.eye HP4.out).mono ?_
      rintro e w5 ⟨rfl, hb5, A5, c5, hE5⟩
      have HJ5 := Aside0.mk (HJ.out.took (y := ⟨3, n2, [], ⟨[], []⟩, ⟨o.f0, o.f1, o.f2, n4⟩, 0, 0⟩) hb5 hE5 8 n4)
      obtain ⟨u5, x5, x5f⟩ := HJ.out.at hb5 8 (by decide)
      have HP5 := Aside0.mk ((hb5.block P (blk_lt HPB.out) HPN.out.1).trans HPB.out)
      have HP6 : Aside0 ((w5.setCell ⟨w.heap.size, 8, none⟩ (.int .i64 n4)).heap[P]? = _) := ⟨(Below.heap_setCell w5 ⟨w.heap.size, 8, none⟩ (.int .i64 n4) P HPN.out.2).trans HP5.out⟩
      clear hb5 hE5
      go_wp2_with fail
      go_roundg (3 - 2)
      case measure => have := HM.out; omega
      case rel => exact ⟨3, l4, wr4, ⟨o.f0, o.f1, o.f2, n4⟩, A5, c5, rfl, ⟨by omega, by omega⟩, HJ5, HP6, ⟨HH4.out⟩⟩
     ·have hF : tkRest 0 (l1, wr1) o = some (r1, r2, r3) := HH.out
      simp only [tkRest, Option.some.injEq, Prod.mk.injEq] at hF
      obtain ⟨rfl, rfl, rfl⟩ := hF
      obtain ⟨z0_, _, _, _, _, _, _, _, _, _, _, zf_⟩ := HJ.out.cells
      go_wp2_with fail
      refine (eye_tk.calls _ B l1 wr1 A1 c1 1 n7 l7 wr7 _ HJ.out.size (.inl HSB.out) HJ.out.eye HP7.out).mono ?_
      rintro e w5 ⟨rfl, hb5, A5, c5, hE5⟩
      have HJ5 := Aside0.mk (HJ.out.took (y := ⟨3, n2, [], ⟨[], []⟩, o, n7, 0⟩) hb5 hE5 9 n7)
      obtain ⟨u5, x5, x5f⟩ := HJ.out.at hb5 9 (by decide)
      clear hb5 hE5 z0_ zf_
      go_upto_region 17 with fail
      obtain ⟨z0, z1, z2, z3, z4, z5, z6, z7, z8, z9, z10, zf⟩ := HJ5.out.cells
      obtain ⟨q0, q1, q2, q3, q4, q5, q6, q7, q8, q9, q10⟩ := HJ5.out.self
      generalize World.setCell w5 _ _ = W at HJ5 z0 z1 z2 z3 z4 z5 z6 z7 z8 z9 z10 zf q0 q1 q2 q3 q4 q5 q6 q7 q8 q9 q10 ⊢
      go_wp2_with fail
      refine bodyPost_ret (results_c rfl _ _ w.heap.size 30 _ (0, 0) _ rfl HJ5.out.cmd.blk Try.underlying30 rfl (by kernel_rfl)) rfl ?_
      exact ⟨HJ5.out.but, _, _, _, _, _, rfl, HJ5.out.eye.less (fun _ h => .inl h), Kd.R_mono HJ5.out.cmd.g (fun k hk e => hk (.inl e)), Kd.R_mono HJ5.out.cmd.s (fun k hk e => hk (.inl e)), Kd.R_mono HJ5.out.cmd.d (fun k hk e => hk (.inl e))⟩
   ·have h8 : n1 ≠ 8 := by omega
    clear hr
    have hF := HF.out
    simp only [if_neg h2, if_neg h3, if_neg h8, Option.some.injEq, Prod.mk.injEq] at hF
    obtain ⟨rfl, rfl, rfl⟩ := hF
    have e2 : (n1 == 2) = false := beq_eq_false_iff_ne.mpr h2
    have e3 : (n1 == 3) = false := beq_eq_false_iff_ne.mpr h3
    have e8 : (n1 == 8) = false := beq_eq_false_iff_ne.mpr h8
    clear h2 h3 h8 HF
    go_upto_region 17 with fail
    obtain ⟨z0, z1, z2, z3, z4, z5, z6, z7, z8, z9, z10, zf⟩ := HI2.out.cells
    obtain ⟨q0, q1, q2, q3, q4, q5, q6, q7, q8, q9, q10⟩ := HI2.out.self
    generalize World.setCell w2 _ _ = W at HI2 z0 z1 z2 z3 z4 z5 z6 z7 z8 z9 z10 zf q0 q1 q2 q3 q4 q5 q6 q7 q8 q9 q10 ⊢
    go_wp2_with fail
    refine bodyPost_ret (results_c rfl _ _ w.heap.size 30 _ (0, 0) _ rfl HI2.out.cmd.blk Try.underlying30 rfl (by kernel_rfl)) rfl ?_
    exact ⟨HI2.out.but, _, _, _, _, _, rfl, HI2.out.eye.less (fun _ h => .inl h), Kd.R_mono HI2.out.cmd.g (fun k hk e => hk (.inl e)), Kd.R_mono HI2.out.cmd.s (fun k hk e => hk (.inl e)), Kd.R_mono HI2.out.cmd.d (fun k hk e => hk (.inl e))⟩
 ·have hp2 := HP2.out
  rw [if_neg hr] at hp2
  simp only [Option.some.injEq, Prod.mk.injEq] at hp2
  obtain ⟨rfl, rfl, rfl⟩ := hp2
  obtain ⟨y0, _, _, _, _, _, _, _, _, _, _, yf⟩ := HI1.out.cells
  have h2 : n1 ≠ 2 := fun e => hr (by omega)
  have h3 : n1 ≠ 3 := fun e => hr (by omega)
  by_cases hl : 2 ≤ n1
  ·have d1 : decide (2 ≤ n1) = true := decide_eq_true hl
   have d2 : decide (n1 ≤ 5) = false := decide_eq_false (fun e => hr ⟨hl, e⟩)
   clear hr
   by_cases h8 : n1 = 8
   ·subst h8
    clear hl d1 d2
    have hF := HF.out
    simp only [if_neg h2, if_neg h3, if_true] at hF
    obtain ⟨⟨n3, l3, wr3⟩, hp3, hF⟩ := Option.bind_eq_some_iff.mp hF
    simp only [Option.some.injEq, Prod.mk.injEq] at hF
    obtain ⟨rfl, rfl, rfl⟩ := hF
    have HP3 := Aside0.mk hp3
    clear hp3 HF h2 h3 HP2
    go_wp2_with fail
    refine (eye_tk.calls _ B l1 wr1 A1 c1 1 n3 l3 wr3 _ HI1.out.size (.inl HSB.out) HI1.out.eye HP3.out).mono ?_
    rintro e w2 ⟨rfl, hb2, A2, c2, hE2⟩
    have HI2 := Aside0.mk (HI1.out.took (y := ⟨8, 0, [], ⟨[], []⟩, ⟨0, 0, 0, 0⟩, 0, n3⟩) hb2 hE2 10 n3)
    obtain ⟨u1, x1, x1f⟩ := HI1.out.at hb2 10 (by decide)
    clear hb2 hE2 HP3
    go_upto_region 17 with fail
    obtain ⟨z0, z1, z2, z3, z4, z5, z6, z7, z8, z9, z10, zf⟩ := HI2.out.cells
    obtain ⟨q0, q1, q2, q3, q4, q5, q6, q7, q8, q9, q10⟩ := HI2.out.self
    generalize World.setCell w2 _ _ = W at HI2 z0 z1 z2 z3 z4 z5 z6 z7 z8 z9 z10 zf q0 q1 q2 q3 q4 q5 q6 q7 q8 q9 q10 ⊢
    go_wp2_with fail
    refine bodyPost_ret (results_c rfl _ _ w.heap.size 30 _ (0, 0) _ rfl HI2.out.cmd.blk Try.underlying30 rfl (by kernel_rfl)) rfl ?_
    exact ⟨HI2.out.but, _, _, _, _, _, rfl, HI2.out.eye.less (fun _ h => .inl h), Kd.R_mono HI2.out.cmd.g (fun k hk e => hk (.inl e)), Kd.R_mono HI2.out.cmd.s (fun k hk e => hk (.inl e)), Kd.R_mono HI2.out.cmd.d (fun k hk e => hk (.inl e))⟩
   ·clear hl
    have hF := HF.out
    simp only [if_neg h2, if_neg h3, if_neg h8, Option.some.injEq, Prod.mk.injEq] at hF
    obtain ⟨rfl, rfl, rfl⟩ := hF
    have e2 : (n1 == 2) = false := beq_eq_false_iff_ne.mpr h2
    have e3 : (n1 == 3) = false := beq_eq_false_iff_ne.mpr h3
    have e8 : (n1 == 8) = false := beq_eq_false_iff_ne.mpr h8
    clear h2 h3 h8 HF
    go_upto_region 17 with fail
    obtain ⟨z0, z1, z2, z3, z4, z5, z6, z7, z8, z9, z10, zf⟩ := HI1.out.cells
    obtain ⟨q0, q1, q2, q3, q4, q5, q6, q7, q8, q9, q10⟩ := HI1.out.self
    generalize World.setCell w1 _ _ = W at HI1 z0 z1 z2 z3 z4 z5 z6 z7 z8 z9 z10 zf q0 q1 q2 q3 q4 q5 q6 q7 q8 q9 q10 ⊢
    go_wp2_with fail
    refine bodyPost_ret (results_c rfl _ _ w.heap.size 30 _ (0, 0) _ rfl HI1.out.cmd.blk Try.underlying30 rfl (by kernel_rfl)) rfl ?_
    exact ⟨HI1.out.but, _, _, _, _, _, rfl, HI1.out.eye.less (fun _ h => .inl h), Kd.R_mono HI1.out.cmd.g (fun k hk e => hk (.inl e)), Kd.R_mono HI1.out.cmd.s (fun k hk e => hk (.inl e)), Kd.R_mono HI1.out.cmd.d (fun k hk e => hk (.inl e))⟩
  ·have d1 : decide (2 ≤ n1) = false := decide_eq_false hl
   have h8 : n1 ≠ 8 := by omega
   clear hr hl
   have hF := HF.out
   simp only [if_neg h2, if_neg h3, if_neg h8, Option.some.injEq, Prod.mk.injEq] at hF
   obtain ⟨rfl, rfl, rfl⟩ := hF
   have e2 : (n1 == 2) = false := beq_eq_false_iff_ne.mpr h2
   have e3 : (n1 == 3) = false := beq_eq_false_iff_ne.mpr h3
   have e8 : (n1 == 8) = false := beq_eq_false_iff_ne.mpr h8
   clear h2 h3 h8 HF
   go_upto_region 17 with fail
   obtain ⟨z0, z1, z2, z3, z4, z5, z6, z7, z8, z9, z10, zf⟩ := HI1.out.cells
   obtain ⟨q0, q1, q2, q3, q4, q5, q6, q7, q8, q9, q10⟩ := HI1.out.self
   generalize World.setCell w1 _ _ = W at HI1 z0 z1 z2 z3 z4 z5 z6 z7 z8 z9 z10 zf q0 q1 q2 q3 q4 q5 q6 q7 q8 q9 q10 ⊢
   go_wp2_with fail
   refine bodyPost_ret (results_c rfl _ _ w.heap.size 30 _ (0, 0) _ rfl HI1.out.cmd.blk Try.underlying30 rfl (by kernel_rfl)) rfl ?_
   exact ⟨HI1.out.but, _, _, _, _, _, rfl, HI1.out.eye.less (fun _ h => .inl h), Kd.R_mono HI1.out.cmd.g (fun k hk e => hk (.inl e)), Kd.R_mono HI1.out.cmd.s (fun k hk e => hk (.inl e)), Kd.R_mono HI1.out.cmd.d (fun k hk e => hk (.inl e))⟩
def rdAll (k : Nat) : Nat → Nat → List Int → Option (Option (List S30))
 | 0, _, _ => none
 | m + 1, n, b => if b = [] then some (some []) else if n < 1000000000 then (eyeCmd k b false).bind fun p => if p.2.1 = true then some none else (chkS k p.2.2).bind fun ok => if ok = true then (rdAll k m (n + 1) p.1).map fun o => o.map fun y => p.2.2 :: y else some none else none
def rdEnd (xs : List S30) (o : Option (List S30)) : List S30 × Int := match o with
 | none => ([], 230)
 | some y => (xs ++ y, 0)
def script_Read.f (k : Nat) (l0 : List Int) : Option (List S30 × Int) := (slices_Clone_byte_byte.f l0).bind fun b => (rdAll k k 0 b).map (rdEnd [])
theorem eyeLoad_mono (k : Nat) (l : List Int) (wr : Bool) (x : S30) : LeO (eyeLoad k l wr x) (eyeLoad (k + 1) l wr x) := by
 unfold eyeLoad
 exact LeO.bind (LeO.refl _) fun p => LeO.ite (LeO.refl _) (LeO.ite (LeO.bind (LeO.refl _) fun g => LeO.bind (LeO.refl _) fun q => LeO.ite (LeO.refl _) (LeO.ite (LeO.bind (image_Take.mono _ _) fun t => LeO.refl _) (LeO.refl _))) (LeO.refl _))
theorem eyeCmd_mono (k : Nat) (l : List Int) (wr : Bool) : LeO (eyeCmd k l wr) (eyeCmd (k + 1) l wr) := by
 unfold eyeCmd
 exact LeO.bind (LeO.refl _) fun a => LeO.bind (LeO.refl _) fun s => LeO.ite (eyeLoad_mono _ _ _ _) (LeO.refl _)
theorem rdAll_mono (k : Nat) : ∀ m n b, LeO (rdAll k m n b) (rdAll (k + 1) (m + 1) n b) := by
 intro m
 induction m with
 | zero => exact fun n b => LeO.none _
 | succ m ih =>
  intro n b
  rw [rdAll, rdAll]
  exact LeO.ite (LeO.refl _) (LeO.ite (LeO.bind (eyeCmd_mono _ _ _) fun p => LeO.ite (LeO.refl _) (LeO.bind (chkS_mono _ _) fun ok => LeO.ite (LeO.map _ (ih _ _)) (LeO.refl _))) (LeO.refl _))
theorem script_Read.mono : ∀ a0 k, LeO (script_Read.f k a0) (script_Read.f (k + 1) a0) := by
 intro a0 k
 unfold script_Read.f
 exact LeO.bind (LeO.refl _) fun b => LeO.map _ (rdAll_mono _ _ _ _)
theorem rdAll_step (k m n : Nat) (b : List Int) (xs : List S30) (hb : b ≠ []) (hn : n < 1000000000) : (rdAll k (m + 1) n b).map (rdEnd xs) = (eyeCmd k b false).bind fun p => if p.2.1 = true then some ([], 230) else (chkS k p.2.2).bind fun ok => if ok = true then (rdAll k m (n + 1) p.1).map (rdEnd (xs ++ [p.2.2])) else some ([], 230) := by
 rw [rdAll, if_neg hb, if_pos hn]
 cases eyeCmd k b false with
 | none => rfl
 | some p =>
  simp only [Option.bind_some]
  by_cases h : p.2.1 = true
  ·simp only [h, if_true]; rfl
  ·rw [if_neg h, if_neg h]
   cases chkS k p.2.2 with
   | none => rfl
   | some ok =>
    simp only [Option.bind_some]
    cases ok with
    | false => rfl
    | true =>
     simp only [if_true]
     cases rdAll k m (n + 1) p.1 with
     | none => rfl
     | some o =>
      cases o with
      | none => rfl
      | some y => simp [rdEnd, List.append_assoc]
theorem EyeS.rows {w w1 : World} {B : Nat} {l : List Int} {wr : Bool} {A : Option Addr} {c : Nat} {v v1 : Value} (h : EyeS w (fun k => k = B ∨ some k = v.ownBlock) B l wr A c) (hg : w.grownBy w1 v.ownBlock) (hat : v1.ownBlock = v.ownBlock ∨ ∃ b, v1.ownBlock = some b ∧ w.heap.size ≤ b) (hB : some B ≠ v.ownBlock) : EyeS w1 (fun k => k = B ∨ some k = v1.ownBlock) B l wr A c :=
 ⟨blk_grown h.blk hg hB, h.cap, fun W hW => h.row W ⟨hW.os.trans hg.os, hW.tape.trans hg.tape, hW.output.trans hg.output, Nat.le_trans hg.size hW.size, fun k hk hn => (hW.block k (Nat.lt_of_lt_of_le hk hg.size) (fun hs => hs.elim (fun e => hn (.inl e)) (fun e => by
  rcases hat with ha | ⟨b, hb, hle⟩
  ·exact hn (.inr (e.trans ha))
  ·rw [hb] at e; cases e; omega))).trans (hg.block k hk (fun e => hn (.inr e)))⟩⟩
structure RdI (w wr : World) (B : Nat) (v : Value) (xs : List S30) (b : List Int) (A : Option Addr) (c : Nat) : Prop where
 bel : Below w.heap.size w wr
 ge : w.heap.size ≤ B
 eye : EyeS wr (fun k => k = B ∨ some k = v.ownBlock) B b false A c
 out : Kd.R k30 30 wr w.heap.size (fun k => ¬ k = B) v xs
set_option maxHeartbeats 8000000 in
set_option maxRecDepth 100000 in
theorem script_Read.calls (k : Nat) (A0 : Option Addr) (c0 : Nat) (l0 : List Int) (r1 : List (S30)) (r2 : Int) (w : World) (hr0 : Kd.C (Kd.int .u8) w A0 l0.length l0) (hc0 : l0.length ≤ c0) (h : script_Read.f k l0 = some (r1, r2)) :
  Calls Try.prog 12 #[.slice A0 l0.length c0] w fun e w' => ∃ v0_ : Value, e = .returned (.tuple #[v0_, .int .i64 r2]) ∧ Kd.R k30 30 w' w.heap.size (fun _ => True) v0_ r1 ∧ Below w.heap.size w w' := by
 unfold script_Read.f at h
 obtain ⟨b0, hcl, h⟩ := Option.bind_eq_some_iff.mp h
 have hu30 := Try.underlying30
 have HCL := Aside0.mk hcl
 have HR0 := Aside0.mk hr0
 have HF := Aside0.mk h
 clear hcl hr0 h
 go_enter Try.func12, Try.ntmps12
 go_wp2_with fail
 refine (slices_Clone_byte_byte.calls A0 c0 l0 b0 _ HR0.out hc0 HCL.out).mono ?_
 rintro e w1 ⟨v1, rfl, hR1, hb1⟩
 obtain ⟨A1, c1, rfl⟩ := Kd.R_slice hR1
 have HI : Aside0 (RdI w (w1.alloc (.cells #[.slice A1 b0.length c1, .bool false] 60)) w1.heap.size (.slice none 0 0) [] b0 A1 c1) :=
  ⟨below_alloc hb1 _, hb1.size, ⟨blk_new _ _, (Kd.R_reads' hR1).2.1, fun W hW => (Kd.R_reads' (R_but (Kd.R_alloc (Kd.R_mono (Kd.R_bound hR1) (ok' := fun k => ¬ (k = w1.heap.size ∨ some k = (Value.slice none 0 0).ownBlock)) (fun k hk e => by have := hk.2.2.1; rcases e with e | e; omega; simp [Value.ownBlock] at e)) (.cells #[.slice A1 b0.length c1, .bool false] 60)) hW (fun _ hk => hk))).2.2⟩, Kd.R_nil _ _ _ _ _⟩
 clear hR1 hb1
 go_upto_block 0 with fail
 generalize w1.alloc _ = W2 at HI ⊢
 obtain ⟨B, hB⟩ : ∃ B, w1.heap.size = B := ⟨_, rfl⟩
 rw [hB] at HI ⊢
 clear hB HCL HR0
 go_wp2_with fail
 go_loopg [2, 5] k (fun gg s2 s5 wr => ∃ (m : Nat) (xs : List S30) (b : List Int) (A : Option Addr) (c : Nat), Aside0 (m ≤ gg) ∧ Aside0 (RdI w wr B s2 xs b A c) ∧ Aside0 ((rdAll k m xs.length b).map (rdEnd xs) = some (r1, r2)))
 case atStart => exact ⟨k, [], b0, A1, c1, ⟨Nat.le_refl _⟩, HI, HF⟩
 case round =>
  clear HI HF
  obtain ⟨m, xs, b, A, c, HM, HI, HH⟩ := hrel
  obtain ⟨Ao, co, rfl⟩ := Kd.R_slice HI.out.out
  have z0 : wr.cell? ⟨B, 0, none⟩ = some (.slice A b.length c) := (blk_cell HI.out.eye.blk 0).trans rfl
  obtain ⟨m, rfl⟩ : ∃ q, m = q + 1 := by
   cases m with
   | zero => have := HH.out; rw [rdAll] at this; cases this
   | succ m => exact ⟨m, rfl⟩
  by_cases hb : b = []
  ·subst hb
   have hH := HH.out
   simp only [rdAll, if_true, Option.map_some, rdEnd, List.append_nil, Option.some.injEq, Prod.mk.injEq] at hH
   obtain ⟨rfl, rfl⟩ := hH
   go_wp2_with fail
   go_ret2
   exact ⟨_, rfl, Kd.R_mono HI.out.out (fun _ _ => trivial), HI.out.bel⟩
  ·have hbn : xs.length < 1000000000 := by
    by_cases hn : xs.length < 1000000000
    ·exact hn
    ·have := HH.out
     rw [rdAll, if_neg hb, if_neg hn] at this
     cases this
   have hH := HH.out
   rw [rdAll_step _ _ _ _ _ hb hbn] at hH
   obtain ⟨⟨b2, wr2, x⟩, hp, hH⟩ := Option.bind_eq_some_iff.mp hH
   have hd0 : decide ((0 : Int) < (b.length : Int)) = true := decide_eq_true (by have := List.length_pos_iff.mpr hb; omega)
   have hd1 : decide (0 < b.length) = true := decide_eq_true (List.length_pos_iff.mpr hb)
   have HP := Aside0.mk hp
   have HH2 := Aside0.mk hH
   have HN := Aside0.mk hbn
   clear hb hbn hp hH HH
   go_wp2_with fail
   refine (eye_cmd.calls k (fun k => k = B ∨ some k = (Value.slice Ao xs.length co).ownBlock) B wr.heap.size b false A c b2 wr2 x _ (Nat.le_refl _) (.inl rfl) (fun k hk => hk.elim (fun e => e ▸ blk_lt HI.out.eye.blk) (fun e => Kd.R_lt HI.out.out k e.symm)) HI.out.eye HP.out).mono ?_
   rintro e w3 ⟨hb3, A3, c3, vg, vs, vd, rfl, hE3, hg3, hs3, hd3⟩
   obtain ⟨Ag, cg, rfl⟩ := Kd.R_slice hg3
   obtain ⟨As, cs, rfl⟩ := Kd.R_slice hs3
   obtain ⟨Ad, cd, rfl⟩ := Kd.R_slice hd3
   have HB3 := Aside0.mk (hb3.under HI.out.bel HI.out.ge)
   have HO3 := Aside0.mk (R_but HI.out.out hb3 (fun _ hk => hk))
   have HO4 := Aside0.mk (Kd.R_alloc HO3.out (.cells #[.int .i64 x.f0, .int .i64 x.f1, .slice Ag x.f2.length cg, .slice As x.f3.f0.length cs, .slice Ad x.f3.f1.length cd, .int .i64 x.f4.f0, .int .i64 x.f4.f1, .int .i64 x.f4.f2, .int .i64 x.f4.f3, .int .i64 x.f5, .int .i64 x.f6] 30))
   have HB4 := Aside0.mk (below_alloc HB3.out (.cells #[.int .i64 x.f0, .int .i64 x.f1, .slice Ag x.f2.length cg, .slice As x.f3.f0.length cs, .slice Ad x.f3.f1.length cd, .int .i64 x.f4.f0, .int .i64 x.f4.f1, .int .i64 x.f4.f2, .int .i64 x.f4.f3, .int .i64 x.f5, .int .i64 x.f6] 30))
   have ht4 : But (fun _ => False) w3 (w3.alloc (.cells #[.int .i64 x.f0, .int .i64 x.f1, .slice Ag x.f2.length cg, .slice As x.f3.f0.length cs, .slice Ad x.f3.f1.length cd, .int .i64 x.f4.f0, .int .i64 x.f4.f1, .int .i64 x.f4.f2, .int .i64 x.f4.f3, .int .i64 x.f5, .int .i64 x.f6] 30)) := But.of (below_alloc (Below.refl _ _) _)
   have HE4 := Aside0.mk (hE3.next ht4 (fun _ h => h.elim) (fun h => h))
   have HL := Aside0.mk hb3.size
   have HSW := Aside0.mk HI.out.bel.size
   have HLT := Aside0.mk (Kd.R_lt HI.out.out)
   have HBL := Aside0.mk (blk_lt HI.out.eye.blk)
   have HGE := Aside0.mk HI.out.ge
   have HNB := Aside0.mk (show some B ≠ (Value.slice Ao xs.length co).ownBlock from fun e => HI.out.out.1 B e.symm rfl)
   have HG4 := Aside0.mk (Kd.R_alloc (Kd.R_bound hg3) (.cells #[.int .i64 x.f0, .int .i64 x.f1, .slice Ag x.f2.length cg, .slice As x.f3.f0.length cs, .slice Ad x.f3.f1.length cd, .int .i64 x.f4.f0, .int .i64 x.f4.f1, .int .i64 x.f4.f2, .int .i64 x.f4.f3, .int .i64 x.f5, .int .i64 x.f6] 30))
   have HS4 := Aside0.mk (Kd.R_alloc (Kd.R_bound hs3) (.cells #[.int .i64 x.f0, .int .i64 x.f1, .slice Ag x.f2.length cg, .slice As x.f3.f0.length cs, .slice Ad x.f3.f1.length cd, .int .i64 x.f4.f0, .int .i64 x.f4.f1, .int .i64 x.f4.f2, .int .i64 x.f4.f3, .int .i64 x.f5, .int .i64 x.f6] 30))
   have HD4 := Aside0.mk (Kd.R_alloc (Kd.R_bound hd3) (.cells #[.int .i64 x.f0, .int .i64 x.f1, .slice Ag x.f2.length cg, .slice As x.f3.f0.length cs, .slice Ad x.f3.f1.length cd, .int .i64 x.f4.f0, .int .i64 x.f4.f1, .int .i64 x.f4.f2, .int .i64 x.f4.f3, .int .i64 x.f5, .int .i64 x.f6] 30))
   have hbk := blk_new w3 (.cells #[.int .i64 x.f0, .int .i64 x.f1, .slice Ag x.f2.length cg, .slice As x.f3.f0.length cs, .slice Ad x.f3.f1.length cd, .int .i64 x.f4.f0, .int .i64 x.f4.f1, .int .i64 x.f4.f2, .int .i64 x.f4.f3, .int .i64 x.f5, .int .i64 x.f6] 30)
   have hc := fun j => blk_cell hbk j
   have z0 := (hc 0).trans rfl
   have z1 := (hc 1).trans rfl
   have z2 := (hc 2).trans rfl
   have z3 := (hc 3).trans rfl
   have z4 := (hc 4).trans rfl
   have z5 := (hc 5).trans rfl
   have z6 := (hc 6).trans rfl
   have z7 := (hc 7).trans rfl
   have z8 := (hc 8).trans rfl
   have z9 := (hc 9).trans rfl
   have z10 := (hc 10).trans rfl
   have e1 : (w3.alloc (.cells #[.int .i64 x.f0, .int .i64 x.f1, .slice Ag x.f2.length cg, .slice As x.f3.f0.length cs, .slice Ad x.f3.f1.length cd, .int .i64 x.f4.f0, .int .i64 x.f4.f1, .int .i64 x.f4.f2, .int .i64 x.f4.f3, .int .i64 x.f5, .int .i64 x.f6] 30)).cell? ⟨B, 1, none⟩ = some (.bool wr2) := (blk_cell HE4.out.blk 1).trans rfl
   have HL4 := Aside0.mk (Nat.le_trans HL.out ht4.size)
   clear hb3 hE3 hg3 hs3 hd3 hc hbk HP ht4 HO3 HI
   go_upto_region 4 with fail
   have HBK := Aside0.mk (blk_new w3 (.cells #[.int .i64 x.f0, .int .i64 x.f1, .slice Ag x.f2.length cg, .slice As x.f3.f0.length cs, .slice Ad x.f3.f1.length cd, .int .i64 x.f4.f0, .int .i64 x.f4.f1, .int .i64 x.f4.f2, .int .i64 x.f4.f3, .int .i64 x.f5, .int .i64 x.f6] 30))
   obtain ⟨P, hP⟩ : ∃ P, w3.heap.size = P := ⟨_, rfl⟩
   rw [hP] at HBK z0 z1 z2 z3 z4 z5 z6 z7 z8 z9 z10 ⊢
   generalize w3.alloc _ = W4 at HO4 HB4 HE4 HG4 HS4 HD4 HBK HL4 z0 z1 z2 z3 z4 z5 z6 z7 z8 z9 z10 e1 ⊢
   cases wr2 with
   | true =>
    have hH := HH2.out
    rw [if_pos rfl] at hH
    simp only [Option.some.injEq, Prod.mk.injEq] at hH
    obtain ⟨rfl, rfl⟩ := hH
    go_wp2_with fail
    go_ret2
    exact ⟨_, rfl, Kd.R_nil _ _ _ _ _, HB4.out⟩
   | false =>
    have hH := HH2.out
    rw [if_neg (by decide)] at hH
    obtain ⟨ok, hk, hH⟩ := Option.bind_eq_some_iff.mp hH
    have HK := Aside0.mk hk
    have HH3 := Aside0.mk hH
    clear hk hH HH2
    go_wp2_with fail
    refine (script_Check.calls k x.f0 x.f1 Ag cg x.f2 As cs x.f3.f0 Ad cd x.f3.f1 x.f4.f0 x.f4.f1 x.f4.f2 x.f4.f3 x.f5 x.f6 ok _ (Kd.R_reads' HG4.out).2.2 (Kd.R_reads' HG4.out).2.1 (Kd.R_reads' HS4.out).2.2 (Kd.R_reads' HS4.out).2.1 (Kd.R_reads' HD4.out).2.2 (Kd.R_reads' HD4.out).2.1 HK.out).mono ?_
    rintro e w5 ⟨rfl, hd5⟩
    have HB5 := Aside0.mk (below_step HB4.out hd5)
    have HL5 : Aside0 (wr.heap.size ≤ w5.heap.size) := ⟨Nat.le_trans HL4.out hd5.size⟩
    have HO5 := Aside0.mk (Kd.R_below HO4.out hd5)
    have HE5 := Aside0.mk (HE4.out.next (T := fun _ => False) (But.of hd5) (fun _ h => h.elim) (fun h => h))
    have HG5 := Aside0.mk (Kd.R_below HG4.out hd5)
    have HS5 := Aside0.mk (Kd.R_below HS4.out hd5)
    have HD5 := Aside0.mk (Kd.R_below HD4.out hd5)
    have HBK5 := Aside0.mk (blk_below HBK.out hd5)
    have hc := fun j => blk_cell HBK5.out j
    clear z0 z1 z2 z3 z4 z5 z6 z7 z8 z9 z10 e1 hd5 HB4 HO4 HE4 HG4 HS4 HD4 HBK
    have z0 := (hc 0).trans rfl
    have z1 := (hc 1).trans rfl
    have z2 := (hc 2).trans rfl
    have z3 := (hc 3).trans rfl
    have z4 := (hc 4).trans rfl
    have z5 := (hc 5).trans rfl
    have z6 := (hc 6).trans rfl
    have z7 := (hc 7).trans rfl
    have z8 := (hc 8).trans rfl
    have z9 := (hc 9).trans rfl
    have z10 := (hc 10).trans rfl
    clear hc
    cases ok with
    | false =>
     have hH := HH3.out
     rw [if_neg (by decide)] at hH
     simp only [Option.some.injEq, Prod.mk.injEq] at hH
     obtain ⟨rfl, rfl⟩ := hH
     go_wp2_with fail
     go_ret2
     exact ⟨_, rfl, Kd.R_nil _ _ _ _ _, HB5.out⟩
    | true =>
     have hH := HH3.out
     rw [if_pos rfl] at hH
     have HH4 := Aside0.mk hH
     clear hH HH3
     go_wp2_with ((with_reducible refine gate_builtin (b := .append) (xs := #[.tmp 29, .tmp 31]) rfl ?_); at_builtin; refine Kd.R_append k30 (w0 := w) w.heap.size rfl (.tmp 29) (.tmp 31) 22 30 (.agg #[.int .i64 0, .int .i64 0, .slice none 0 0, .slice none 0 0, .slice none 0 0, .int .i64 0, .int .i64 0, .int .i64 0, .int .i64 0, .int .i64 0, .int .i64 0]) 136 rfl Try.underlying22 info30 rfl (by decide) (by omega) (.slice Ao xs.length co) xs x [.int .i64 x.f0, .int .i64 x.f1, .slice Ag x.f2.length cg, .slice As x.f3.f0.length cs, .slice Ad x.f3.f1.length cd, .int .i64 x.f4.f0, .int .i64 x.f4.f1, .int .i64 x.f4.f2, .int .i64 x.f4.f3, .int .i64 x.f5, .int .i64 x.f6] (fun k => ¬ k = B) (fun k => wr.heap.size ≤ k) rfl (by go_simp; first | done | simp) ?aP ?aK ?aF ?aO ?aB ?aS ?aL ?_; (case aP => exact k30_mkM _ _ _ x (Kd.R_mono (Kd.R_lower HG5.out HSW.out) (fun _ hk => hk.2.1)) (Kd.R_mono (Kd.R_lower HS5.out HSW.out) (fun _ hk => hk.2.1)) (Kd.R_mono (Kd.R_lower HD5.out HSW.out) (fun _ hk => hk.2.1))); (case aK => exact fun k hk => ⟨fun e => by have := HBL.out; omega, fun e => by have := HLT.out k e.symm; omega⟩); (case aF => exact fun k hk e => by have := HBL.out; have := HL5.out; omega); (case aO => exact HO5.out); (case aB => exact HB5.out); (case aS => exact HB5.out.size); (case aL => have := HN.out; omega); intro v6 w6 ho hb hg hat; have HO6 := Aside0.mk ho; have HB6 := Aside0.mk hb; have HE6 := Aside0.mk (HE5.out.rows hg hat HNB.out); clear ho hb hg hat)
     go_roundg m
     case measure => have := HM.out; omega
     case rel => exact ⟨m, xs ++ [x], b2, A3, c3, ⟨Nat.le_refl _⟩, ⟨HB6.out, HGE.out, HE6.out, HO6.out⟩, ⟨by rw [List.length_append]; exact HH4.out⟩⟩
end Go.Proofs.Ytjcgadfmhfhbgaa.A
