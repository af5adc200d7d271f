/- Lean functions that answer as the Go functions do, and the proofs that they do; no conditions. Written by this session's own driver: a scratch copy of the kit's print with the session's additions (wip/xprint). -/
import Derived.Test.YtmolbbebglfhmaaProg
import Derived.Below
import Derived.Deep.Draws
import Derived.Deep.AppendLies
import Derived.Maps.AppendAt
import Derived.OwnWalk
import Derived.Laws.BytesArg
import Derived.Laws.MakeOwn
import Derived.Laws.OwnMore
import Derived.Deep.OwnRows
import Derived.Tactics
import Derived.Lib.ConvBytes
import Derived.Laws.Slices
import Derived.WalkKit
import Derived.KernelRfl
import Derived.RowKit3
import Derived.Deep.LoopGhost
import Derived.Deep.QuietTactic
import Derived.BigQuiet
import Derived.WideLaws
import Derived.Deep.DeepCutAuto
import Derived.Deep.CutBlock
import Derived.Deep.RegionHeld3
import Derived.Laws.Rows
import Derived.Lib.AppendStr
import Derived.ArgAppend
import Derived.Laws.IdiomCopy
import Derived.OrdersHeld
import Derived.Laws.BitsLemmas
import Derived.RowKit
import Derived.WalkMore
import Derived.Recover
import Derived.Deep.RegionWith
import Derived.OneCell
import Derived.Lib.SliceRun
import Derived.WalkSmall
import Derived.WalkSpells
import Derived.ScopeJumps
import Derived.Deep.RegionLaw
import Derived.Deep.RegionLawGrows
import Derived.Laws.CopyOwn
import Derived.TacticsInMore
import Derived.OwnWalkIn
import Derived.Test.YtmolbbebglfhmaaOwn
import Derived.Test.YtmolbbebglfhmaaWWords
import Derived.Test.YtmolbbebglfhmaaWLast
import Derived.Test.YtmolbbebglfhmaaWTab
import Derived.Test.YtmolbbebglfhmaaWFour
import Derived.Test.YtmolbbebglfhmaaWQPut
import Derived.Test.YtmolbbebglfhmaaWApart
import Derived.Test.YtmolbbebglfhmaaWArr
import Derived.Test.YtmolbbebglfhmaaWZeros
import Derived.Test.YtmolbbebglfhmaaWFoot
import Derived.Test.YtmolbbebglfhmaaWKept
import Derived.Test.YtmolbbebglfhmaaWShare
import Derived.Test.YtmolbbebglfhmaaWN
import Derived.Test.YtmolbbebglfhmaaWFootNe
import Derived.Test.YtmolbbebglfhmaaWAt
import Derived.Test.YtmolbbebglfhmaaWEqStruct
import Derived.Test.YtmolbbebglfhmaaWRepsOne
import Derived.Test.YtmolbbebglfhmaaWInv
import Derived.Test.YtmolbbebglfhmaaWInvWords
import Derived.Test.YtmolbbebglfhmaaWGuard
import Derived.Test.YtmolbbebglfhmaaWNEv
import Derived.Test.YtmolbbebglfhmaaWMore
namespace Go.Proofs.Ytmolbbebglfhmaa.A
open Go.RowKit Go.Proofs.YtmolbbebglfhmaaW.PrintWords Go.Proofs.YtmolbbebglfhmaaW.PrintLast Go.Proofs.YtmolbbebglfhmaaW.PrintMore
attribute [local go_sem] max2_int min2_int max_two min_two max_three min_three max_four min_four
set_option linter.unusedVariables false
set_option linter.unusedSimpArgs false
def errW : Option Int → Value
  | none => .nilIface
  | some c => .iface 0 (.int .i64 c)
theorem errW_none : errW none = .nilIface := rfl
theorem errW_some (c : Int) : errW (some c) = .iface 0 (.int .i64 c) := rfl
theorem info3 : (Try.prog.info? 3).map (fun i => (i.zero, i.size, i.bytes)) = some (some (.int .i64 0), 1, 8) := by kernel_rfl
theorem info37 : (Try.prog.info? 37).map (fun i => (i.zero, i.size, i.bytes)) = some (some (.agg #[(.slice none 0 0), (.slice none 0 0)]), 2, 48) := by kernel_rfl
theorem info54 : (Try.prog.info? 54).map (fun i => (i.zero, i.size, i.bytes)) = some (some (.slice none 0 0), 1, 24) := by kernel_rfl
theorem info74 : (Try.prog.info? 74).map (fun i => (i.zero, i.size, i.bytes)) = some (some (.agg #[(.int .i64 0), (.slice none 0 0), (.slice none 0 0)]), 3, 56) := by kernel_rfl
structure S37 where
  f0 : (List Int)
  f1 : (List Int)
def z37 : S37 := ⟨([] : List Int), ([] : List Int)⟩
def k37 : Kd S37 := Kd.iso (Kd.pair (Kd.slice 3 (Kd.int .i64)) (Kd.slice 3 (Kd.int .i64))) (fun x : S37 => (x.f0, x.f1))
theorem k37_heap : Kd.Heap k37 := Kd.heap_iso _ (Kd.heap_pair (Kd.heap_slice 3 (Kd.heap_int .i64)) (Kd.heap_slice 3 (Kd.heap_int .i64)))
theorem k37_open {w : World} {x : S37} {cs : List Value} (h : k37.K w x cs) : ∃ A0 c0 A1 c1, cs = [.slice A0 x.f0.length c0, .slice A1 x.f1.length c1] ∧ x.f0.length ≤ c0 ∧ (Kd.int .i64).C w A0 x.f0.length x.f0 ∧ x.f1.length ≤ c1 ∧ (Kd.int .i64).C w A1 x.f1.length x.f1 := by
  obtain ⟨_, _, rfl, ⟨A0, c0, rfl, l0, g0⟩, ⟨A1, c1, rfl, l1, g1⟩⟩ := h
  exact ⟨A0, c0, A1, c1, rfl, l0, g0, l1, g1⟩
theorem k37_openM {w : World} {base : Nat} {ok : Nat → Prop} {x : S37} {cs : List Value} (h : k37.M w base ok x cs) : ∃ v0 v1, cs = [v0, v1] ∧ (Kd.int .i64).R 3 w base ok v0 x.f0 ∧ (Kd.int .i64).R 3 w base ok v1 x.f1 := by
  obtain ⟨_, _, rfl, ⟨v0, rfl, g0⟩, ⟨v1, rfl, g1⟩⟩ := h
  exact ⟨v0, v1, rfl, g0, g1⟩
theorem k37_mk (w : World) (x : S37) {A0 : Option Addr} {c0 : Nat} (l0 : x.f0.length ≤ c0) (g0 : (Kd.int .i64).C w A0 x.f0.length x.f0) {A1 : Option Addr} {c1 : Nat} (l1 : x.f1.length ≤ c1) (g1 : (Kd.int .i64).C w A1 x.f1.length x.f1) : k37.K w x [.slice A0 x.f0.length c0, .slice A1 x.f1.length c1] := ⟨[.slice A0 x.f0.length c0], [.slice A1 x.f1.length c1], rfl, ⟨A0, c0, rfl, l0, g0⟩, ⟨A1, c1, rfl, l1, g1⟩⟩
theorem k37_mkM (w : World) (base : Nat) (ok : Nat → Prop) (x : S37) {v0 : Value} (g0 : (Kd.int .i64).R 3 w base ok v0 x.f0) {v1 : Value} (g1 : (Kd.int .i64).R 3 w base ok v1 x.f1) : k37.M w base ok x [v0, v1] := ⟨[v0], [v1], rfl, ⟨v0, rfl, g0⟩, ⟨v1, rfl, g1⟩⟩
theorem k37_mkF (W : World) (ok : Nat → Prop) (x : S37) {A0 : Option Addr} {c0 : Nat} (l0 : x.f0.length ≤ c0) (g0 : Kd.F (Kd.int .i64) W ok A0 x.f0.length x.f0) {A1 : Option Addr} {c1 : Nat} (l1 : x.f1.length ≤ c1) (g1 : Kd.F (Kd.int .i64) W ok A1 x.f1.length x.f1) : Kd.FK k37 W ok x [.slice A0 x.f0.length c0, .slice A1 x.f1.length c1] := fun W2 hW => k37_mk W2 x l0 (g0 W2 hW) l1 (g1 W2 hW)
def rd_T37 (xs : List S37) (i : Int) : S37 := xs.getD i.toNat z37
theorem at_T37 {w : World} {A : Option Addr} {n : Nat} {xs : List S37} (h : Kd.C k37 w A n xs) (i : Int) (h0 : 0 ≤ i) (h1 : i < n) : ∃ ad A0 c0 A1 c1, A = some ad ∧ w.cell? (ad.add (i.toNat * 2)) = some (.slice A0 (rd_T37 xs i).f0.length c0) ∧ w.cell? ⟨(ad.add (i.toNat * 2)).block, (ad.add (i.toNat * 2)).off + 1, none⟩ = some (.slice A1 (rd_T37 xs i).f1.length c1) ∧ (rd_T37 xs i).f0.length ≤ c0 ∧ (Kd.int .i64).C w A0 (rd_T37 xs i).f0.length (rd_T37 xs i).f0 ∧ (rd_T37 xs i).f1.length ≤ c1 ∧ (Kd.int .i64).C w A1 (rd_T37 xs i).f1.length (rd_T37 xs i).f1 := by
  obtain ⟨ad, c, e, _, hK, hc0⟩ := Kd.C_get h z37 i h0 h1
  have hc : ∀ j u, c[j]? = some u → w.cell? (ad.add (i.toNat * 2 + j)) = some u := hc0
  obtain ⟨A0, c0, A1, c1, rfl, l0, g0, l1, g1⟩ := k37_open hK
  exact ⟨ad, A0, c0, A1, c1, e, hc 0 _ rfl, by rw [← add_field _ _ 1 (by omega)]; exact hc 1 _ rfl, l0, g0, l1, g1⟩
structure S74 where
  f0 : Int
  f1 : S37
def z74 : S74 := ⟨(0 : Int), z37⟩
def k74 : Kd S74 := Kd.iso (Kd.pair (Kd.int .i64) k37) (fun x : S74 => (x.f0, x.f1))
theorem k74_heap : Kd.Heap k74 := Kd.heap_iso _ (Kd.heap_pair (Kd.heap_int .i64) k37_heap)
theorem k74_open {w : World} {x : S74} {cs : List Value} (h : k74.K w x cs) : ∃ A1 c1 A2 c2, cs = [.int .i64 x.f0, .slice A1 x.f1.f0.length c1, .slice A2 x.f1.f1.length c2] ∧ x.f1.f0.length ≤ c1 ∧ (Kd.int .i64).C w A1 x.f1.f0.length x.f1.f0 ∧ x.f1.f1.length ≤ c2 ∧ (Kd.int .i64).C w A2 x.f1.f1.length x.f1.f1 := by
  obtain ⟨_, _, rfl, rfl, s1⟩ := h
  obtain ⟨A1, c1, A2, c2, rfl, l1, g1, l2, g2⟩ := k37_open s1
  exact ⟨A1, c1, A2, c2, rfl, l1, g1, l2, g2⟩
theorem k74_mk (w : World) (x : S74) {A1 : Option Addr} {c1 : Nat} (l1 : x.f1.f0.length ≤ c1) (g1 : (Kd.int .i64).C w A1 x.f1.f0.length x.f1.f0) {A2 : Option Addr} {c2 : Nat} (l2 : x.f1.f1.length ≤ c2) (g2 : (Kd.int .i64).C w A2 x.f1.f1.length x.f1.f1) : k74.K w x [.int .i64 x.f0, .slice A1 x.f1.f0.length c1, .slice A2 x.f1.f1.length c2] := ⟨[.int .i64 x.f0], [.slice A1 x.f1.f0.length c1, .slice A2 x.f1.f1.length c2], rfl, rfl, (k37_mk w x.f1 l1 g1 l2 g2)⟩
theorem k74_openF {W : World} {ok : Nat → Prop} {x : S74} {cs : List Value} (h : Kd.FK k74 W ok x cs) : ∃ A1 c1 A2 c2, cs = [.int .i64 x.f0, .slice A1 x.f1.f0.length c1, .slice A2 x.f1.f1.length c2] ∧ x.f1.f0.length ≤ c1 ∧ Kd.F (Kd.int .i64) W ok A1 x.f1.f0.length x.f1.f0 ∧ x.f1.f1.length ≤ c2 ∧ Kd.F (Kd.int .i64) W ok A2 x.f1.f1.length x.f1.f1 := by
  obtain ⟨A1, c1, A2, c2, rfl, l1, _, l2, _⟩ := k74_open (Kd.FK_now h)
  exact ⟨A1, c1, A2, c2, rfl, l1, (fun W' hW => by obtain ⟨A1_, c1_, A2_, c2_, he, l1_, g1_, l2_, g2_⟩ := k74_open (h W' hW); injection (Option.some.inj (show some (Value.slice A1 x.f1.f0.length c1) = some (Value.slice A1_ x.f1.f0.length c1_) from congrArg (fun l => l[1]?) he)) with ha_ _ _; rw [ha_]; exact g1_), l2, (fun W' hW => by obtain ⟨A1_, c1_, A2_, c2_, he, l1_, g1_, l2_, g2_⟩ := k74_open (h W' hW); injection (Option.some.inj (show some (Value.slice A2 x.f1.f1.length c2) = some (Value.slice A2_ x.f1.f1.length c2_) from congrArg (fun l => l[2]?) he)) with ha_ _ _; rw [ha_]; exact g2_)⟩
theorem k74_mkF (W : World) (ok : Nat → Prop) (x : S74) {A1 : Option Addr} {c1 : Nat} (l1 : x.f1.f0.length ≤ c1) (g1 : Kd.F (Kd.int .i64) W ok A1 x.f1.f0.length x.f1.f0) {A2 : Option Addr} {c2 : Nat} (l2 : x.f1.f1.length ≤ c2) (g2 : Kd.F (Kd.int .i64) W ok A2 x.f1.f1.length x.f1.f1) : Kd.FK k74 W ok x [.int .i64 x.f0, .slice A1 x.f1.f0.length c1, .slice A2 x.f1.f1.length c2] := fun W2 hW => k74_mk W2 x l1 (g1 W2 hW) l2 (g2 W2 hW)
def rd_T74 (xs : List S74) (i : Int) : S74 := xs.getD i.toNat z74
theorem at_T74 {w : World} {A : Option Addr} {n : Nat} {xs : List S74} (h : Kd.C k74 w A n xs) (i : Int) (h0 : 0 ≤ i) (h1 : i < n) : ∃ ad A1 c1 A2 c2, A = some ad ∧ w.cell? (ad.add (i.toNat * 3)) = some (.int .i64 (rd_T74 xs i).f0) ∧ w.cell? ⟨(ad.add (i.toNat * 3)).block, (ad.add (i.toNat * 3)).off + 1, none⟩ = some (.slice A1 (rd_T74 xs i).f1.f0.length c1) ∧ w.cell? ⟨(ad.add (i.toNat * 3)).block, (ad.add (i.toNat * 3)).off + 2, none⟩ = some (.slice A2 (rd_T74 xs i).f1.f1.length c2) ∧ (rd_T74 xs i).f1.f0.length ≤ c1 ∧ (Kd.int .i64).C w A1 (rd_T74 xs i).f1.f0.length (rd_T74 xs i).f1.f0 ∧ (rd_T74 xs i).f1.f1.length ≤ c2 ∧ (Kd.int .i64).C w A2 (rd_T74 xs i).f1.f1.length (rd_T74 xs i).f1.f1 := by
  obtain ⟨ad, c, e, _, hK, hc0⟩ := Kd.C_get h z74 i h0 h1
  have hc : ∀ j u, c[j]? = some u → w.cell? (ad.add (i.toNat * 3 + j)) = some u := hc0
  obtain ⟨A1, c1, A2, c2, rfl, l1, g1, l2, g2⟩ := k74_open hK
  exact ⟨ad, A1, c1, A2, c2, e, hc 0 _ rfl, by rw [← add_field _ _ 1 (by omega)]; exact hc 1 _ rfl, by rw [← add_field _ _ 2 (by omega)]; exact hc 2 _ rfl, l1, g1, l2, g2⟩
def rd_L4 (xs : List (List S74)) (i : Int) : (List S74) := xs.getD i.toNat ([] : List S74)
theorem at_L4 {w : World} {A : Option Addr} {n : Nat} {xs : List (List S74)} (h : Kd.C (Kd.slice 74 k74) w A n xs) (i : Int) (h0 : 0 ≤ i) (h1 : i < n) : ∃ ad A0 c0, A = some ad ∧ w.cell? (ad.add i.toNat) = some (.slice A0 (rd_L4 xs i).length c0) ∧ (rd_L4 xs i).length ≤ c0 ∧ k74.C w A0 (rd_L4 xs i).length (rd_L4 xs i) := by
  obtain ⟨ad, c, e, _, hK, hc0⟩ := Kd.C_get h ([] : List S74) i h0 h1
  have hc : ∀ j u, c[j]? = some u → w.cell? (ad.add (i.toNat * 1 + j)) = some u := hc0
  obtain ⟨A0, c0, rfl, l0, g0⟩ := hK
  exact ⟨ad, A0, c0, e, by have hq := hc 0 _ rfl; rwa [Nat.mul_one, Nat.add_zero] at hq, l0, g0⟩
structure S42 where
  f0 : Int
  f1 : S37
def z42 : S42 := ⟨(0 : Int), z37⟩
def k42 : Kd S42 := Kd.iso (Kd.pair (Kd.int .i64) k37) (fun x : S42 => (x.f0, x.f1))
theorem k42_heap : Kd.Heap k42 := Kd.heap_iso _ (Kd.heap_pair (Kd.heap_int .i64) k37_heap)
theorem k42_open {w : World} {x : S42} {cs : List Value} (h : k42.K w x cs) : ∃ A1 c1 A2 c2, cs = [.int .i64 x.f0, .slice A1 x.f1.f0.length c1, .slice A2 x.f1.f1.length c2] ∧ x.f1.f0.length ≤ c1 ∧ (Kd.int .i64).C w A1 x.f1.f0.length x.f1.f0 ∧ x.f1.f1.length ≤ c2 ∧ (Kd.int .i64).C w A2 x.f1.f1.length x.f1.f1 := by
  obtain ⟨_, _, rfl, rfl, s1⟩ := h
  obtain ⟨A1, c1, A2, c2, rfl, l1, g1, l2, g2⟩ := k37_open s1
  exact ⟨A1, c1, A2, c2, rfl, l1, g1, l2, g2⟩
theorem k42_mk (w : World) (x : S42) {A1 : Option Addr} {c1 : Nat} (l1 : x.f1.f0.length ≤ c1) (g1 : (Kd.int .i64).C w A1 x.f1.f0.length x.f1.f0) {A2 : Option Addr} {c2 : Nat} (l2 : x.f1.f1.length ≤ c2) (g2 : (Kd.int .i64).C w A2 x.f1.f1.length x.f1.f1) : k42.K w x [.int .i64 x.f0, .slice A1 x.f1.f0.length c1, .slice A2 x.f1.f1.length c2] := ⟨[.int .i64 x.f0], [.slice A1 x.f1.f0.length c1, .slice A2 x.f1.f1.length c2], rfl, rfl, (k37_mk w x.f1 l1 g1 l2 g2)⟩
theorem k42_openF {W : World} {ok : Nat → Prop} {x : S42} {cs : List Value} (h : Kd.FK k42 W ok x cs) : ∃ A1 c1 A2 c2, cs = [.int .i64 x.f0, .slice A1 x.f1.f0.length c1, .slice A2 x.f1.f1.length c2] ∧ x.f1.f0.length ≤ c1 ∧ Kd.F (Kd.int .i64) W ok A1 x.f1.f0.length x.f1.f0 ∧ x.f1.f1.length ≤ c2 ∧ Kd.F (Kd.int .i64) W ok A2 x.f1.f1.length x.f1.f1 := by
  obtain ⟨A1, c1, A2, c2, rfl, l1, _, l2, _⟩ := k42_open (Kd.FK_now h)
  exact ⟨A1, c1, A2, c2, rfl, l1, (fun W' hW => by obtain ⟨A1_, c1_, A2_, c2_, he, l1_, g1_, l2_, g2_⟩ := k42_open (h W' hW); injection (Option.some.inj (show some (Value.slice A1 x.f1.f0.length c1) = some (Value.slice A1_ x.f1.f0.length c1_) from congrArg (fun l => l[1]?) he)) with ha_ _ _; rw [ha_]; exact g1_), l2, (fun W' hW => by obtain ⟨A1_, c1_, A2_, c2_, he, l1_, g1_, l2_, g2_⟩ := k42_open (h W' hW); injection (Option.some.inj (show some (Value.slice A2 x.f1.f1.length c2) = some (Value.slice A2_ x.f1.f1.length c2_) from congrArg (fun l => l[2]?) he)) with ha_ _ _; rw [ha_]; exact g2_)⟩
theorem k42_mkF (W : World) (ok : Nat → Prop) (x : S42) {A1 : Option Addr} {c1 : Nat} (l1 : x.f1.f0.length ≤ c1) (g1 : Kd.F (Kd.int .i64) W ok A1 x.f1.f0.length x.f1.f0) {A2 : Option Addr} {c2 : Nat} (l2 : x.f1.f1.length ≤ c2) (g2 : Kd.F (Kd.int .i64) W ok A2 x.f1.f1.length x.f1.f1) : Kd.FK k42 W ok x [.int .i64 x.f0, .slice A1 x.f1.f0.length c1, .slice A2 x.f1.f1.length c2] := fun W2 hW => k42_mk W2 x l1 (g1 W2 hW) l2 (g2 W2 hW)
def rd_T42 (xs : List S42) (i : Int) : S42 := xs.getD i.toNat z42
theorem at_T42 {w : World} {A : Option Addr} {n : Nat} {xs : List S42} (h : Kd.C k42 w A n xs) (i : Int) (h0 : 0 ≤ i) (h1 : i < n) : ∃ ad A1 c1 A2 c2, A = some ad ∧ w.cell? (ad.add (i.toNat * 3)) = some (.int .i64 (rd_T42 xs i).f0) ∧ w.cell? ⟨(ad.add (i.toNat * 3)).block, (ad.add (i.toNat * 3)).off + 1, none⟩ = some (.slice A1 (rd_T42 xs i).f1.f0.length c1) ∧ w.cell? ⟨(ad.add (i.toNat * 3)).block, (ad.add (i.toNat * 3)).off + 2, none⟩ = some (.slice A2 (rd_T42 xs i).f1.f1.length c2) ∧ (rd_T42 xs i).f1.f0.length ≤ c1 ∧ (Kd.int .i64).C w A1 (rd_T42 xs i).f1.f0.length (rd_T42 xs i).f1.f0 ∧ (rd_T42 xs i).f1.f1.length ≤ c2 ∧ (Kd.int .i64).C w A2 (rd_T42 xs i).f1.f1.length (rd_T42 xs i).f1.f1 := by
  obtain ⟨ad, c, e, _, hK, hc0⟩ := Kd.C_get h z42 i h0 h1
  have hc : ∀ j u, c[j]? = some u → w.cell? (ad.add (i.toNat * 3 + j)) = some u := hc0
  obtain ⟨A1, c1, A2, c2, rfl, l1, g1, l2, g2⟩ := k42_open hK
  exact ⟨ad, A1, c1, A2, c2, e, hc 0 _ rfl, by rw [← add_field _ _ 1 (by omega)]; exact hc 1 _ rfl, by rw [← add_field _ _ 2 (by omega)]; exact hc 2 _ rfl, l1, g1, l2, g2⟩
structure S25 where
  f0 : (List (List S74))
  f1 : Int
  f2 : (List Int)
def k25 : Kd S25 := Kd.iso (Kd.pair (Kd.slice 54 (Kd.slice 74 k74)) (Kd.pair (Kd.int .i64) (Kd.slice 3 (Kd.int .i64)))) (fun x : S25 => (x.f0, x.f1, x.f2))
theorem k25_open {w : World} {x : S25} {cs : List Value} (h : k25.K w x cs) : ∃ A0 c0 A2 c2, cs = [.slice A0 x.f0.length c0, .int .i64 x.f1, .slice A2 x.f2.length c2] ∧ x.f0.length ≤ c0 ∧ (Kd.slice 74 k74).C w A0 x.f0.length x.f0 ∧ x.f2.length ≤ c2 ∧ (Kd.int .i64).C w A2 x.f2.length x.f2 := by
  obtain ⟨_, _, rfl, ⟨A0, c0, rfl, l0, g0⟩, ⟨_, _, rfl, rfl, ⟨A2, c2, rfl, l2, g2⟩⟩⟩ := h
  exact ⟨A0, c0, A2, c2, rfl, l0, g0, l2, g2⟩
def OK37 (x : S37) : Prop := (x.f0.length * 8 ≤ 140737488351232 ∧ ∀ x_ ∈ x.f0, (Lit.int .i64 x_).wf = true) ∧ (x.f1.length * 8 ≤ 140737488351232 ∧ ∀ x_ ∈ x.f1, (Lit.int .i64 x_).wf = true)
def OK74 (x : S74) : Prop := ((Lit.int .i64 x.f0).wf = true) ∧ (OK37 x.f1)
def OK42 (x : S42) : Prop := ((Lit.int .i64 x.f0).wf = true) ∧ (OK37 x.f1)
def OK25 (x : S25) : Prop := (x.f0.length * 24 ≤ 140737488351232 ∧ ∀ x_ ∈ x.f0, x_.length * 56 ≤ 140737488351232 ∧ ∀ y_ ∈ x_, OK74 y_) ∧ ((Lit.int .i64 x.f1).wf = true) ∧ (x.f2.length * 8 ≤ 140737488351232 ∧ ∀ x_ ∈ x.f2, (Lit.int .i64 x_).wf = true)
end Go.Proofs.Ytmolbbebglfhmaa.A
