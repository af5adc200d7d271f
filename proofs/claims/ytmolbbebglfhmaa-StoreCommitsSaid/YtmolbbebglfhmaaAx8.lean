/- Lean functions that answer as the Go functions do, and the proofs that they do; no conditions. Written by this session's own driver: a scratch copy of the kit's print with the session's additions (wip/xprint). -/
import Derived.Test.YtmolbbebglfhmaaAx0
import Derived.Test.YtmolbbebglfhmaaAx1
import Derived.Test.YtmolbbebglfhmaaAx2
import Derived.Test.YtmolbbebglfhmaaAx3
import Derived.Test.YtmolbbebglfhmaaAx4
import Derived.Test.YtmolbbebglfhmaaAx5
namespace Go.Proofs.Ytmolbbebglfhmaa.A
open Go.RowKit Go.Proofs.YtmolbbebglfhmaaW.PrintWords Go.Proofs.YtmolbbebglfhmaaW.PrintLast Go.Proofs.YtmolbbebglfhmaaW.PrintMore
attribute [local go_sem] max2_int min2_int max_two min_two max_three min_three max_four min_four
set_option linter.unusedVariables false
set_option linter.unusedSimpArgs false
def over (cs : Array Value) (o : Nat) (vs : List Value) : Array Value := (cs.toList.take o ++ vs ++ cs.toList.drop (o + vs.length)).toArray
theorem over_nil (cs : Array Value) (o : Nat) : over cs o [] = cs := by simp [over]
theorem over_cons (cs : Array Value) (o : Nat) (v : Value) (vs : List Value) (h : o < cs.size) : over (cs.setIfInBounds o v) (o + 1) vs = over cs o (v :: vs) := by
  unfold over
  congr 1
  have hl : o < cs.toList.length := by simpa using h
  rw [Array.toList_setIfInBounds, List.take_succ_eq_append_getElem (by simpa using h), List.take_set_of_le (Nat.le_refl _), List.drop_set_of_lt (by omega)]
  simp [Nat.add_assoc, Nat.add_comm 1]
theorem over_size {cs : Array Value} {o : Nat} {vs : List Value} (h : o + vs.length ≤ cs.size) : (over cs o vs).size = cs.size := by simp [over]; omega
theorem blk_over {g : Nat} {t : TypeId} : ∀ (vs : List Value) (o : Nat) (w : World) (cs : Array Value), w.heap[g]? = some (.cells cs t (0, 0)) → o + vs.length ≤ cs.size → (w.setCells g o vs).heap[g]? = some (.cells (over cs o vs) t (0, 0))
  | [], o, w, cs, h, _ => by rw [over_nil]; exact h
  | v :: vs, o, w, cs, h, hl => by
    have hl' : o + 1 + vs.length ≤ cs.size := by simp at hl; omega
    rw [← over_cons cs o v vs (by omega)]
    exact blk_over vs (o + 1) _ _ (blk_put h o v rfl) (by simpa using hl')
theorem below_cells {B g : Nat} (hg : B ≤ g) {w0 : World} : ∀ (vs : List Value) (o : Nat) (w : World), Below B w0 w → Below B w0 (w.setCells g o vs)
  | [], _, _, h => h
  | v :: vs, o, w, h => below_cells hg vs (o + 1) _ (h.setCell (p := ⟨g, o, none⟩) hg v)
theorem dl_info : (Try.prog.info? 3).map (fun i => (i.zero, i.size, i.bytes)) = some (some (.int .i64 0), 1, 8) := by kernel_rfl
theorem dl_zero : ∀ w, (zeroValue 3).run Try.prog w = .ok (.int .i64 0) w := fun w => by kernel_rfl
theorem enc_cell {l : List Int} {cs : Array Value} (ht : cs.toList.take l.length = encs (Value.int .i64) l) {k : Nat} (hk : k < l.length) : cs[k]? = some (.int .i64 (rd l (k : Int))) := by
  have h1 : (cs.toList.take l.length)[k]? = cs.toList[k]? := List.getElem?_take_of_lt hk
  rw [ht] at h1
  rw [← Array.getElem?_toList, ← h1]
  simp [encs, rd, hk]
set_option maxHeartbeats 8000000 in
set_option maxRecDepth 1000000 in
theorem slices_Delete_int_int.own2 (v : Value) (l : List Int) (i j B : Nat) (ok : Nat → Prop) (w : World) (hR : Kd.R (Kd.int .i64) 3 w B ok v l) (hij : i < j) (hj : j ≤ l.length) :
    Calls Try.prog 38 #[v, .int .i64 i, .int .i64 j] w fun e w' => ∃ v' : Value, e = .returned v' ∧ Kd.R (Kd.int .i64) 3 w' B ok v' (l.take i ++ l.drop j) ∧ Below B w w' ∧ Kept w w' (fun k => v.ownBlock = some k) := by
  obtain ⟨i0, hi0, hz0, hz1, hz2⟩ := info_parts dl_info
  obtain ⟨hlen, ⟨rfl, h0⟩ | ⟨g, cap, cur, rfl, hg, hb, hcap, hcm, hcs, htk⟩⟩ := Kd.own_of_R hR
  · omega
  have hok := hR.1 g rfl
  rw [Nat.mul_one] at hcs htk
  obtain ⟨news, hnews⟩ : ∃ news, news = encs (Value.int .i64) (l.drop j) := ⟨_, rfl⟩
  have hnl : news.length = l.length - j := by rw [hnews]; simp [encs]
  have hng : ∀ t, t < l.length - j → news[t]? = some (.int .i64 (rd l ((j + t : Nat) : Int))) := fun t ht => by
    have hjt : j + t < l.length := by omega
    rw [hnews]
    unfold rd
    rw [Int.toNat_natCast]
    simp [encs, hjt]
  obtain ⟨A, hA, hsrc⟩ : ∃ A : Addr, (if cap = j then some (⟨g, 0, none⟩ : Addr) else some ⟨g, j, none⟩) = some A ∧ Hid (∀ t u, news[t]? = some u → w.drew.cell? (A.add t) = some u) := by
    by_cases h : cap = j
    · refine ⟨⟨g, 0, none⟩, by simp [h], fun t u hu => ?_⟩
      have h0 : news.length = 0 := by rw [hnl]; omega
      rw [List.length_eq_zero_iff.1 h0] at hu
      simp at hu
    · refine ⟨⟨g, j, none⟩, by simp [h], fun t u hu => ?_⟩
      have ht : t < l.length - j := by
        have := (List.getElem?_eq_some_iff.1 hu).1
        rwa [hnl] at this
      rw [hng t ht] at hu
      rw [Addr.add_lit]
      exact ((blk_cell hb (j + t)).trans (enc_cell htk (by omega))).trans hu
  have s1 : Hid (news.length = (l.length - j) * 1) := by rw [Nat.mul_one]; exact hnl
  have s2 : Hid (∀ u ∈ news, u.oneCell' = true) := by
    intro u hu
    rw [hnews] at hu
    obtain ⟨x, _, rfl⟩ := List.mem_map.1 hu
    rfl
  have s3 : Hid (∀ t, t < news.length → (w.drew.cell? ⟨g, 0 + i * 1 + t, none⟩).isSome = true ∧ w.drew.frozen? ⟨g, 0 + i * 1 + t, none⟩ = false) := by
    intro t ht
    rw [hnl] at ht
    refine ⟨?_, blk_frozen hb _⟩
    show (w.cell? _).isSome = true
    rw [blk_cell hb, Nat.zero_add, Nat.mul_one, enc_cell htk (by omega)]
    rfl
  obtain ⟨W1, hW1⟩ : ∃ W1, W1 = w.drew.setCells g (0 + i * 1) news := ⟨_, rfl⟩
  have hb1 : W1.heap[g]? = some (.cells (over cur i news) 3 (0, 0)) := by
    rw [hW1, Nat.zero_add, Nat.mul_one]
    exact blk_over news i w.drew cur hb (by omega)
  have hbl1 : Below B w W1 := by rw [hW1]; exact below_cells hg _ _ _ (below_drew1 (Below.refl _ _))
  have hos : (over cur i news).size = cap := by rw [over_size (by omega)]; exact hcs
  obtain ⟨m, hm⟩ : ∃ m, m = i + (l.length - j) := ⟨_, rfl⟩
  have hcl : ∀ ty, (Builtin.clear_ #[23] ty #[.slice (some ⟨g, i + (l.length - j), none⟩) (l.length - (i + (l.length - j))) (cap - (i + (l.length - j)))]).run Try.prog W1 = .ok (.tuple #[]) (W1.setCells g (i + (l.length - j)) (List.replicate (l.length - (i + (l.length - j))) (.int .i64 0))) :=
    fun ty => Lib.run_clear_slice W1 _ _ ty _ Try.underlying23 dl_zero rfl rfl g (i + (l.length - j)) _ _ (by omega) (fun t ht => by rw [blk_cell hb1]; simp [hos]; omega) (fun t ht => blk_frozen hb1 _)
  have HW := Aside0.mk hW1
  have HB := Aside0.mk hb1
  have HBl := Aside0.mk hbl1
  have HCS := Aside0.mk hcs
  have HTK := Aside0.mk htk
  have HOS := Aside0.mk hos
  have HNL := Aside0.mk hnl
  have HN := Aside0.mk hnews
  have HB0 := Aside0.mk hb
  have HOK := Aside0.mk hok
  have hic : i ≤ cap := by omega
  have hjc : j ≤ cap := by omega
  have hcap' : cap ≤ 9223372036854775807 := by unfold maxLen at hcm; exact hcm
  clear hW1 hb1 hbl1 hcs htk hos hnl hnews hb hok hng hR hlen hm
  go_enter Try.func38, Try.ntmps38
  go_wp2_with fail
  go_region_law (refine step_append_room rfl (.tmp 22) (.tmp 25) 23 rfl 3 i0 1 Try.underlying23 hi0 hz1 g 0 i cap (by simp [Act.eval, Act.put]) A (l.length - j) (cap - j) news (by simp [Act.eval, Act.put]) s1.out hsrc.out s2.out (by omega) s3.out ?_; rw [← HW.out])
  go_wp2_with fail
  go_ret
  have hkept : Kept w (W1.setCells g (i + (l.length - j)) (List.replicate (l.length - (i + (l.length - j))) (.int .i64 0))) (fun k => (Value.slice (some ⟨g, 0, none⟩) l.length cap).ownBlock = some k) := by
    refine ⟨(below_cells hg _ _ _ HBl.out).size, fun q hq hn => ?_⟩
    have hne : q ≠ g := fun e => hn (by rw [e]; rfl)
    rw [setCells_far _ _ q hne, HW.out, setCells_far _ _ q hne]
    rfl
  refine ⟨_, rfl, ?_, below_cells hg _ _ _ HBl.out, hkept⟩
  have hll : (l.take i ++ l.drop j).length = i + (l.length - j) := by simp; omega
  have hcs := HCS.out
  have hnl := HNL.out
  have hos := HOS.out
  have hbk := blk_over (List.replicate (l.length - (i + (l.length - j))) (.int .i64 0)) (i + (l.length - j)) W1 _ HB.out (by rw [hos]; simp; omega)
  refine Kd.R_of_own (v := .slice (some ⟨g, 0, none⟩) (i + (l.length - j)) cap) ?_ (fun k hk => by simp [Value.ownBlock] at hk; subst hk; exact HOK.out)
  rw [hll]
  refine ⟨by simp [encs]; omega, .inr ⟨g, cap, _, rfl, hg, hbk, by omega, hcm, ?_, ?_⟩⟩
  · rw [over_size (by rw [hos]; simp; omega), hos, Nat.mul_one]
  · have e1 : (over cur i news).toList.take (i + (l.length - j)) = encs (Value.int .i64) (l.take i ++ l.drop j) := by
      have e2 : cur.toList.take i = encs (Value.int .i64) (l.take i) := by
        have := congrArg (List.take i) HTK.out
        rw [List.take_take, show min i l.length = i by omega] at this
        rw [this]
        simp [encs, List.map_take]
      unfold over
      rw [e2, HN.out, List.toList_toArray]
      rw [List.take_append_of_le_length (by simp [encs]; omega), List.take_of_length_le (by simp [encs]; omega)]
      simp [encs]
    have hsz : (cur.toList.take i ++ news ++ cur.toList.drop (i + news.length)).toArray.toList.length = cap := by
      have h2 := hos
      unfold over at h2
      rw [← h2]
      simp
    unfold over at e1 ⊢
    generalize (cur.toList.take i ++ news ++ cur.toList.drop (i + news.length)).toArray = Z at e1 hsz ⊢
    rw [Nat.mul_one, List.toList_toArray, List.append_assoc, List.take_append_of_le_length (by rw [List.length_take, hsz]; omega), List.take_take, Nat.min_self]
    exact e1
theorem slices_Delete_int_int.own (v : Value) (l : List Int) (i j B : Nat) (ok : Nat → Prop) (w : World) (hR : Kd.R (Kd.int .i64) 3 w B ok v l) (hij : i < j) (hj : j ≤ l.length) :
    Calls Try.prog 38 #[v, .int .i64 i, .int .i64 j] w fun e w' => ∃ v' : Value, e = .returned v' ∧ Kd.R (Kd.int .i64) 3 w' B ok v' (l.take i ++ l.drop j) ∧ Below B w w' :=
  (slices_Delete_int_int.own2 v l i j B ok w hR hij hj).mono fun e w' h => by
    obtain ⟨v', h1, h2, h3, _⟩ := h
    exact ⟨v', h1, h2, h3⟩
def slices_Delete_int_int.f (l0 : List Int) (a1 a2 : Int) : Option (List Int) := if 0 ≤ a1 ∧ a1 < a2 ∧ a2 ≤ (l0.length : Int) then some (l0.take a1.toNat ++ l0.drop a2.toNat) else none
theorem slices_Delete_int_int.calls (P0_ : Nat → Prop) (u9000_ : Value) (l0 : List Int) (a1 : Int) (a2 : Int) (r : List Int) (w0 w : World) (hB : Below w0.heap.size w0 w) (ho0 : Kd.R (Kd.int .i64) 3 w w0.heap.size P0_ u9000_ l0) (h : slices_Delete_int_int.f l0 a1 a2 = some r) :
    Calls Try.prog 38 #[u9000_, .int .i64 a1, .int .i64 a2] w fun e w' => ∃ v0_ : Value, e = .returned (v0_) ∧ Kd.R (Kd.int .i64) 3 w' w0.heap.size (fun k_ => (P0_ k_ ∨ w.heap.size ≤ k_)) v0_ r ∧ Below w0.heap.size w0 w' ∧ Kept w w' (fun k_ => P0_ k_) := by
  unfold slices_Delete_int_int.f at h
  split at h
  · rename_i hc
    obtain rfl := Option.some.inj h
    have e1 : a1 = ((a1.toNat : Nat) : Int) := by omega
    have e2 : a2 = ((a2.toNat : Nat) : Int) := by omega
    have := slices_Delete_int_int.own2 u9000_ l0 a1.toNat a2.toNat w0.heap.size P0_ w ho0 (by omega) (by omega)
    rw [← e1, ← e2] at this
    refine this.mono ?_
    rintro e w' ⟨v', rfl, h2, h3, h4⟩
    exact ⟨v', rfl, Kd.R_mono h2 (fun _ hk => .inl hk), hB.trans h3, h4.mono (fun k hk => ho0.1 k hk)⟩
  · cases h
def store_Free.f (k : Nat) (l0_0 : List (List (S74))) (a0_1 : Int) (l0_2 : List Int) (a1 : Int) : Option ((List (List (S74))) × Int × List Int × Int) := (store_Check.f k l0_0 a0_1 l0_2).bind fun t197 => (if t197 = true then ((slices_BinarySearch_int_int.f k l0_2 a1).bind fun bt198 => (if bt198.2 = true then ((slices_Clone_int_int.f l0_2).bind fun t200 => ((slices_Delete_int_int.f t200 bt198.1 (wrap64 (bt198.1 + 1))).bind fun t203 => (some (l0_0, a0_1, t203, 0)))) else (some (l0_0, a0_1, l0_2, 180)))) else (some (l0_0, a0_1, l0_2, 1)))
theorem store_Free.mono : ∀ a0 a1 a2 a3 k, LeO (store_Free.f k a0 a1 a2 a3) (store_Free.f (k + 1) a0 a1 a2 a3) := by
 intro a0 a1 a2 a3 k
 unfold store_Free.f
 repeat' first
  | (with_reducible first | exact slices_BinarySearch_int_int.mono _ _ _ | exact store_Check.mono _ _ _ _ | exact LeO.refl _ | exact LeO.none _ | refine LeO.ite ?_ ?_ | refine LeO.bind ?_ (fun _ => ?_))
  | first | exact slices_BinarySearch_int_int.mono _ _ _ | exact store_Check.mono _ _ _ _ | exact LeO.none _ | refine LeO.ite ?_ ?_ | refine LeO.bind ?_ (fun _ => ?_)
set_option maxHeartbeats 8000000 in
set_option maxRecDepth 100000 in
theorem store_Free.calls (k : Nat) (P0_0_ : Nat → Prop) (A0_0 : Option Addr) (c0_0 : Nat) (l0_0 : List (List (S74))) (a0_1 : Int) (P0_2_ : Nat → Prop) (A0_2 : Option Addr) (c0_2 : Nat) (l0_2 : List Int) (a1 : Int) (r1 : List (List (S74))) (r2 : Int) (r3 : List Int) (r4 : Int) (w : World) (hs0_0 : Kd.V (Kd.slice 74 k74) 54 w w.heap.size (fun k_ => P0_0_ k_) (.slice A0_0 l0_0.length c0_0) l0_0) (hs0_2 : Kd.V (Kd.int .i64) 3 w w.heap.size (fun k_ => P0_2_ k_) (.slice A0_2 l0_2.length c0_2) l0_2) (h : store_Free.f k l0_0 a0_1 l0_2 a1 = some (r1, r2, r3, r4)) :
  Calls Try.prog 17 #[.agg #[.slice A0_0 l0_0.length c0_0, .int .i64 a0_1, .slice A0_2 l0_2.length c0_2], .int .i64 a1] w fun e w' => ∃ v0_ v2_ : Value, e = .returned (.tuple #[.agg #[v0_, .int .i64 r2, v2_], .int .i64 r4]) ∧ Kd.V (Kd.slice 74 k74) 54 w' w.heap.size (fun k_ => ((P0_0_ k_ ∨ P0_2_ k_) ∨ w.heap.size ≤ k_)) v0_ r1 ∧ Kd.V (Kd.int .i64) 3 w' w.heap.size (fun k_ => ((P0_0_ k_ ∨ P0_2_ k_) ∨ w.heap.size ≤ k_)) v2_ r3 ∧ Below w.heap.size w w' := by
 have hu25 := Try.underlying25
 have HO0_0 := Aside0.mk (show Kd.V (Kd.slice 74 k74) 54 w w.heap.size (fun k_ => ((P0_0_ k_ ∨ P0_2_ k_) ∨ w.heap.size ≤ k_)) (.slice A0_0 l0_0.length c0_0) l0_0 from Kd.V_mono hs0_0 (fun k_ hk => .inl (.inl hk)))
 have HO0_2 := Aside0.mk (show Kd.V (Kd.int .i64) 3 w w.heap.size (fun k_ => ((P0_0_ k_ ∨ P0_2_ k_) ∨ w.heap.size ≤ k_)) (.slice A0_2 l0_2.length c0_2) l0_2 from Kd.V_mono hs0_2 (fun k_ hk => .inl (.inr hk)))
 have HB := Aside0.mk (Below.refl w.heap.size w)
 have H : ((store_Check.f k l0_0 a0_1 l0_2).bind fun t197 => (if t197 = true then ((slices_BinarySearch_int_int.f k l0_2 a1).bind fun bt198 => (if bt198.2 = true then ((slices_Clone_int_int.f l0_2).bind fun t200 => ((slices_Delete_int_int.f t200 bt198.1 (wrap64 (bt198.1 + 1))).bind fun t203 => (some (l0_0, a0_1, t203, 0)))) else (some (l0_0, a0_1, l0_2, 180)))) else (some (l0_0, a0_1, l0_2, 1)))) = some (r1, r2, r3, r4) := h
 clear h
 replace H := Option.bind_eq_some_iff.mp H
 obtain ⟨t197, A30, H⟩ := H
 replace H : (if t197 = true then ((slices_BinarySearch_int_int.f k l0_2 a1).bind fun bt198 => (if bt198.2 = true then ((slices_Clone_int_int.f l0_2).bind fun t200 => ((slices_Delete_int_int.f t200 bt198.1 (wrap64 (bt198.1 + 1))).bind fun t203 => (some (l0_0, a0_1, t203, 0)))) else (some (l0_0, a0_1, l0_2, 180)))) else (some (l0_0, a0_1, l0_2, 1))) = some (r1, r2, r3, r4) := H
 have A3 := Aside0.mk A30
 clear A30
 by_cases c4 : t197 = true
 ·subst c4
  have H1 : ((slices_BinarySearch_int_int.f k l0_2 a1).bind fun bt198 => (if bt198.2 = true then ((slices_Clone_int_int.f l0_2).bind fun t200 => ((slices_Delete_int_int.f t200 bt198.1 (wrap64 (bt198.1 + 1))).bind fun t203 => (some (l0_0, a0_1, t203, 0)))) else (some (l0_0, a0_1, l0_2, 180)))) = some (r1, r2, r3, r4) := by rw [if_pos rfl] at H; exact H
  clear H
  have H := H1
  clear H1
  replace H := Option.bind_eq_some_iff.mp H
  obtain ⟨⟨t198, t199⟩, A50, H⟩ := H
  replace H : (if t199 = true then ((slices_Clone_int_int.f l0_2).bind fun t200 => ((slices_Delete_int_int.f t200 t198 (wrap64 (t198 + 1))).bind fun t203 => (some (l0_0, a0_1, t203, 0)))) else (some (l0_0, a0_1, l0_2, 180))) = some (r1, r2, r3, r4) := H
  have A5 := Aside0.mk A50
  clear A50
  by_cases c6 : t199 = true
  ·subst c6
   have H1 : ((slices_Clone_int_int.f l0_2).bind fun t200 => ((slices_Delete_int_int.f t200 t198 (wrap64 (t198 + 1))).bind fun t203 => (some (l0_0, a0_1, t203, 0)))) = some (r1, r2, r3, r4) := by rw [if_pos rfl] at H; exact H
   clear H
   have H := H1
   clear H1
   replace H := Option.bind_eq_some_iff.mp H
   obtain ⟨t200, A70, H⟩ := H
   replace H : ((slices_Delete_int_int.f t200 t198 (wrap64 (t198 + 1))).bind fun t203 => (some (l0_0, a0_1, t203, 0))) = some (r1, r2, r3, r4) := H
   have A7 := Aside0.mk A70
   clear A70
   replace H := Option.bind_eq_some_iff.mp H
   obtain ⟨t203, A80, H⟩ := H
   replace H : (some (l0_0, a0_1, t203, 0)) = some (r1, r2, r3, r4) := H
   have A8 := Aside0.mk A80
   clear A80
   simp only [Option.some.injEq, Prod.mk.injEq] at H
   obtain ⟨rfl, rfl, rfl, rfl⟩ := H
   go_enter Try.func17, Try.ntmps17
   go_wp2_with (first | ((with_reducible refine gate_dst (N := 2) rfl ?_); refine box_event ?hg (N := 2) ?hd (cs := #[.slice A0_0 l0_0.length c0_0, .int .i64 a0_1, .slice A0_2 l0_2.length c0_2]) (t := 25) ?hr ?_; (case hd => rfl); (case hg => rfl); (case hr => first | (go_simp; done) | (go_simp; rfl)); intro gb195 hg w9 hbox hb; have BK195 := Aside0.mk (hbox); have GW195 := Aside0.mk ((by rw [hg]; exact (below_size (bq0_ HB.out)) : w.heap.size ≤ gb195)); have GE195 := Aside0.mk ((by rw [hg]; exact (below_size (bq0_ HB.out)) : w.heap.size ≤ gb195)); replace HO0_0 := Aside0.mk (Kd.V_below (Kd.V_elderB (mvV_ HO0_0.out) gb195 (Nat.le_of_eq hg.symm)) hb); replace HO0_2 := Aside0.mk (Kd.V_below (Kd.V_elderB (mvV_ HO0_2.out) gb195 (Nat.le_of_eq hg.symm)) hb); replace HB := Aside0.mk (below_step (bq0_ HB.out) hb); clear hb hbox hg) | ((with_reducible refine gate_dst (N := 4) rfl ?_); refine box_event ?hg (N := 4) ?hd (cs := #[.slice none 0 0, .int .i64 0, .slice none 0 0]) (t := 25) ?hr ?_; (case hd => rfl); (case hg => rfl); (case hr => first | (go_simp; done) | (go_simp; rfl)); intro gb196 hg w10 hbox hb; have BK196 := Aside0.mk (hbox); have GW196 := Aside0.mk ((by rw [hg]; exact (below_size (bq1_ HB.out GE195.out)) : w.heap.size ≤ gb196)); have GE196 := Aside0.mk ((by rw [hg]; exact (below_size (bq1_ HB.out GE195.out)) : w.heap.size ≤ gb196)); have NB195_196 := Aside0.mk ((by rw [hg]; exact Nat.ne_of_lt (blk_lt (g := gb195) (o := .cells #[.slice A0_0 l0_0.length c0_0, .int .i64 a0_1, .slice A0_2 l0_2.length c0_2] 25 (0, 0)) (mvK_ BK195.out)) : gb195 ≠ gb196)); have NB196_195 := Aside0.mk ((by rw [hg]; exact Nat.ne_of_gt (blk_lt (g := gb195) (o := .cells #[.slice A0_0 l0_0.length c0_0, .int .i64 a0_1, .slice A0_2 l0_2.length c0_2] 25 (0, 0)) (mvK_ BK195.out)) : gb196 ≠ gb195)); replace HO0_0 := Aside0.mk (Kd.V_below (Kd.V_elderB (mvV_ HO0_0.out) gb196 (Nat.le_of_eq hg.symm)) hb); replace HO0_2 := Aside0.mk (Kd.V_below (Kd.V_elderB (mvV_ HO0_2.out) gb196 (Nat.le_of_eq hg.symm)) hb); replace BK195 := Aside0.mk (blk_below (g := gb195) (o := .cells #[.slice A0_0 l0_0.length c0_0, .int .i64 a0_1, .slice A0_2 l0_2.length c0_2] 25 (0, 0)) (mvK_ BK195.out) hb); replace HB := Aside0.mk (below_step (bq1_ HB.out GE195.out) hb); clear hb hbox hg; have hnb11 := NB195_196.out; have hnc11 := NB196_195.out; have hcz12_0 := hc_ BK195 0; have hcz12_1 := hc_ BK195 1; have hcz12_2 := hc_ BK195 2; have hfz12_0 := blk_frozen BK195.out 0; have hfz12_1 := blk_frozen BK195.out 1; have hfz12_2 := blk_frozen BK195.out 2) | ((with_reducible refine gate_callee (f := 9) rfl ?_); refine gL_ (some 9) Try.func9 #[.agg #[.slice A0_0 l0_0.length c0_0, .int .i64 a0_1, .slice A0_2 l0_2.length c0_2]] ?_; (with_reducible refine (store_Check.calls k _ _ l0_0 a0_1 _ _ l0_2 true _ ?side1 ?side2 ?side3 ?side4 A3.out).mono ?_); (case side1 => exact mvC_ ((Kd.V_reads' HO0_0.out).2.2)); (case side2 => exact (Kd.V_reads' HO0_0.out).2.1); (case side3 => exact mvC_ ((Kd.V_reads' HO0_2.out).2.2)); (case side4 => exact (Kd.V_reads' HO0_2.out).2.1); rintro e w13 ⟨rfl, hb⟩; refine ⟨_, rfl, ?_⟩; replace HO0_0 := Aside0.mk (Kd.V_below (mvV_ HO0_0.out) hb); replace HO0_2 := Aside0.mk (Kd.V_below (mvV_ HO0_2.out) hb); replace BK195 := Aside0.mk (blk_below (g := gb195) (o := .cells #[.slice A0_0 l0_0.length c0_0, .int .i64 a0_1, .slice A0_2 l0_2.length c0_2] 25 (0, 0)) (mvK_ BK195.out) hb); replace BK196 := Aside0.mk (blk_below (g := gb196) (o := .cells #[.slice none 0 0, .int .i64 0, .slice none 0 0] 25 (0, 0)) (mvK_ BK196.out) hb); replace HB := Aside0.mk (below_step (bq2_ HB.out GE195.out GE196.out) hb); (try clear hb); have hcz14_0 := hc_ BK195 0; have hcz14_1 := hc_ BK195 1; have hcz14_2 := hc_ BK195 2; have hfz14_0 := blk_frozen BK195.out 0; have hfz14_1 := blk_frozen BK195.out 1; have hfz14_2 := blk_frozen BK195.out 2) | ((with_reducible refine gate_callee (f := 32) rfl ?_); refine gL_ (some 16) Try.func32 #[.slice A0_2 l0_2.length c0_2, .int .i64 a1] ?_; (with_reducible refine (slices_BinarySearch_int_int.calls k _ _ l0_2 a1 t198 true _ ?side1 ?side2 A5.out).mono ?_); (case side1 => exact mvC_ ((Kd.V_reads' HO0_2.out).2.2)); (case side2 => exact (Kd.V_reads' HO0_2.out).2.1); rintro e w' ⟨rfl, ⟨nd, rfl⟩⟩; refine ⟨_, rfl, ?_⟩; (try (rw [drewN_self w13]; generalize hq_ : World.drewN w13 _ = w13; have n0_ := Aside0.mk (show Kd.V (Kd.slice 74 k74) 54 w13 w.heap.size _ (.slice A0_0 l0_0.length c0_0) l0_0 from by rw [← hq_]; exact Kd.V_drewN HO0_0.out _); have n1_ := Aside0.mk (show Kd.V (Kd.int .i64) 3 w13 w.heap.size _ (.slice A0_2 l0_2.length c0_2) l0_2 from by rw [← hq_]; exact Kd.V_drewN HO0_2.out _); have n2_ : Aside0 (w13.heap[gb195]? = some (.cells #[.slice A0_0 l0_0.length c0_0, .int .i64 a0_1, .slice A0_2 l0_2.length c0_2] 25 (0, 0))) := ⟨by rw [← hq_]; exact (mvK_ BK195.out)⟩; have n3_ : Aside0 (w13.heap[gb196]? = some (.cells #[.slice none 0 0, .int .i64 0, .slice none 0 0] 25 (0, 0))) := ⟨by rw [← hq_]; exact (mvK_ BK196.out)⟩; have n4_ : Aside0 (Below w.heap.size w w13) := ⟨by rw [← hq_]; exact (bq2_ HB.out GE195.out GE196.out)⟩; clear HO0_0 HO0_2 BK195 BK196 HB hq_; have HO0_0 := n0_; have HO0_2 := n1_; have BK195 := n2_; have BK196 := n3_; have HB := n4_; clear n0_ n1_ n2_ n3_ n4_)); have hcz14_0q := hc_ BK195 0; have hcz14_1q := hc_ BK195 1; have hcz14_2q := hc_ BK195 2; have hfz12_0q := blk_frozen BK195.out 0; have hfz12_1q := blk_frozen BK195.out 1; have hfz12_2q := blk_frozen BK195.out 2; have hfz14_0q := blk_frozen BK195.out 0; have hfz14_1q := blk_frozen BK195.out 1; have hfz14_2q := blk_frozen BK195.out 2) | ((with_reducible refine gate_callee (f := 39) rfl ?_); refine gL_ (some 24) Try.func39 #[.slice A0_2 l0_2.length c0_2] ?_; (with_reducible refine (slices_Clone_int_int.calls _ _ l0_2 t200 _ ?side1 ?side2 A7.out).mono ?_); (case side1 => exact mvC_ ((Kd.V_reads' HO0_2.out).2.2)); (case side2 => exact (Kd.V_reads' HO0_2.out).2.1); rintro e w15 ⟨v201, rfl, ho0, hb⟩; refine ⟨_, rfl, ?_⟩; have HO202 := Aside0.mk (Kd.R_lower (Kd.R_newM (M := fun k_ => (w.heap.size ≤ k_)) ho0 (below_size (bq2_ HB.out GE195.out GE196.out)) (fun k_ h_ => h_)) (below_size (bq2_ HB.out GE195.out GE196.out))); replace HO0_0 := Aside0.mk (Kd.V_elder' (mvV_ HO0_0.out) (Kd.R_base ho0) hb); replace HO0_2 := Aside0.mk (Kd.V_elder' (mvV_ HO0_2.out) (Kd.R_base ho0) hb); replace BK195 := Aside0.mk (blk_below (g := gb195) (o := .cells #[.slice A0_0 l0_0.length c0_0, .int .i64 a0_1, .slice A0_2 l0_2.length c0_2] 25 (0, 0)) (mvK_ BK195.out) hb); replace BK196 := Aside0.mk (blk_below (g := gb196) (o := .cells #[.slice none 0 0, .int .i64 0, .slice none 0 0] 25 (0, 0)) (mvK_ BK196.out) hb); replace HB := Aside0.mk (below_step (bq2_ HB.out GE195.out GE196.out) hb); (try clear hb); (try clear ho0); obtain ⟨Ao16, co16, eo16⟩ := Kd.R_slice HO202.out; subst eo16) | ((with_reducible refine gate_callee (f := 38) rfl ?_); refine gL_ (some 28) Try.func38 #[.slice Ao16 t200.length co16, .int .i64 t198, .int .i64 (wrap64 (t198 + 1))] ?_; (with_reducible refine (slices_Delete_int_int.calls (fun k_ => some k_ = (.slice Ao16 t200.length co16 : Value).ownBlock) (.slice Ao16 t200.length co16) t200 t198 (wrap64 (t198 + 1)) t203 w _ ?side1 ?side2 A8.out).mono ?_); (case side1 => repeat (first | (with_reducible first | exact HB.out | apply below_alloc | apply pw_below_drewN | apply below_drew1 | refine below_set ?_ GE195.out | refine below_set ?_ GE196.out) | exact HB.out)); (case side2 => exact Kd.R_tight rfl HO202.out); rintro e w17 ⟨v204, rfl, ho0, hb, hkp⟩; refine ⟨_, rfl, ?_⟩; have HO205 := Aside0.mk (Kd.R_mono (ok' := fun k_ => (w.heap.size ≤ k_)) ho0 (fun k_ hk_ => Or.elim hk_ (fun hs_ => (HO202.out.1 k_ (hs_).symm).1) (fun hn_ => (Nat.le_trans (below_size (bq2_ HB.out GE195.out GE196.out)) hn_)))); replace HO0_0 := Aside0.mk (Kd.V_mono (ok' := fun k_ => ((P0_0_ k_ ∨ P0_2_ k_) ∨ w.heap.size ≤ k_) ∧ k_ ≠ gb195 ∧ k_ ≠ gb196 ∧ some k_ ≠ (v204 : Value).ownBlock) (Kd.V_keptB (HO0_0.out) hkp (fun k_ hk_ hs_ => (hk_.2) hs_)) (fun k_ hk_ => ⟨hk_.1.1.1.1, hk_.1.1.1.2, hk_.1.1.2, fun e_ => Or.elim (ho0.1 k_ e_.symm) (fun hs_ => hk_.2.1 hs_) (fun hn_ => Nat.not_le.2 hk_.2.2 hn_)⟩)); replace HO0_2 := Aside0.mk (Kd.V_mono (ok' := fun k_ => ((P0_0_ k_ ∨ P0_2_ k_) ∨ w.heap.size ≤ k_) ∧ k_ ≠ gb195 ∧ k_ ≠ gb196 ∧ some k_ ≠ (v204 : Value).ownBlock) (Kd.V_keptB (HO0_2.out) hkp (fun k_ hk_ hs_ => (hk_.2) hs_)) (fun k_ hk_ => ⟨hk_.1.1.1.1, hk_.1.1.1.2, hk_.1.1.2, fun e_ => Or.elim (ho0.1 k_ e_.symm) (fun hs_ => hk_.2.1 hs_) (fun hn_ => Nat.not_le.2 hk_.2.2 hn_)⟩)); replace BK195 := Aside0.mk (blk_kept (mvK_ BK195.out) hkp (fun hs_ => (fun e_ => (Kd.R_ne HO202.out BK195.out (by decide)) e_) hs_)); replace BK196 := Aside0.mk (blk_kept (mvK_ BK196.out) hkp (fun hs_ => (fun e_ => (Kd.R_ne HO202.out BK196.out (by decide)) e_) hs_)); replace HB := Aside0.mk (hb); clear HO202; (try clear hb); (try clear hkp); (try clear ho0); obtain ⟨Ao18, co18, eo18⟩ := Kd.R_slice HO205.out; subst eo18; have hcz19_0 := hc_ BK195 0; have hcz19_1 := hc_ BK195 1; have hcz19_2 := hc_ BK195 2; have hfz19_0 := blk_frozen BK195.out 0; have hfz19_1 := blk_frozen BK195.out 1; have hfz19_2 := blk_frozen BK195.out 2; have hcz20_0 := hc_ BK196 0; have hcz20_1 := hc_ BK196 1; have hcz20_2 := hc_ BK196 2; have hfz20_0 := blk_frozen BK196.out 0; have hfz20_1 := blk_frozen BK196.out 1; have hfz20_2 := blk_frozen BK196.out 2))
   refine bodyPost_ret (results_ct rfl _ _ gb196 25 #[.slice A0_0 l0_0.length c0_0, .int .i64 a0_1, .slice Ao18 t203.length co18] (0, 0) _ rfl (by (with_reducible repeat (first | refine blk_drewN ?_ _ | refine blk_drew ?_ | refine blk_alloc ?_ _)); refine blk_put (cs := #[.slice A0_0 l0_0.length c0_0, .int .i64 a0_1, .slice none 0 0]) ?_ 2 _ rfl; (with_reducible repeat (first | refine blk_drewN ?_ _ | refine blk_drew ?_ | refine blk_alloc ?_ _)); refine blk_put (cs := #[.slice A0_0 l0_0.length c0_0, .int .i64 0, .slice none 0 0]) ?_ 1 _ rfl; (with_reducible repeat (first | refine blk_drewN ?_ _ | refine blk_drew ?_ | refine blk_alloc ?_ _)); refine blk_put (cs := #[.slice none 0 0, .int .i64 0, .slice none 0 0]) ?_ 0 _ rfl; (with_reducible repeat (first | refine blk_drewN ?_ _ | refine blk_drew ?_ | refine blk_alloc ?_ _)); refine blk_far ?_ NB196_195.out _; (with_reducible repeat (first | refine blk_drewN ?_ _ | refine blk_drew ?_ | refine blk_alloc ?_ _)); exact BK196.out) Try.underlying25 rfl (by kernel_rfl)) rfl ?_
   exact ⟨_, _, by first | rfl | (simp <;> rfl) | (simp [*] <;> rfl), by (with_reducible repeat (first | apply Kd.V_alloc | apply Kd.V_drewN | apply Kd.V_drew)); exact Kd.V_mono (Kd.V_far (p := ⟨gb196, 2, none⟩) (Kd.V_far (p := ⟨gb196, 1, none⟩) (Kd.V_far (p := ⟨gb196, 0, none⟩) (Kd.V_far (p := ⟨gb195, 2, none⟩) (Kd.V_mono (Kd.V_mono HO0_0.out (fun k_ hk => (⟨hk, hk.2.1⟩ : _ ∧ k_ ≠ gb195))) (fun k_ hk => (⟨hk, hk.1.2.2.1⟩ : _ ∧ k_ ≠ gb196))) (fun _ hk => hk.1.2) (.slice Ao18 t203.length co18)) (fun _ hk => hk.2) (.slice A0_0 l0_0.length c0_0)) (fun _ hk => hk.2) (.int .i64 a0_1)) (fun _ hk => hk.2) (.slice Ao18 t203.length co18)) (fun _ hk => hk.1.1.1), Kd.V_mono (Kd.R_V (by (with_reducible repeat (first | apply Kd.R_alloc | apply Kd.R_drewN | apply Kd.R_drew)); exact Kd.R_mono (Kd.R_far (p := ⟨gb196, 2, none⟩) (Kd.R_far (p := ⟨gb196, 1, none⟩) (Kd.R_far (p := ⟨gb196, 0, none⟩) (Kd.R_far (p := ⟨gb195, 2, none⟩) (Kd.R_types (Kd.R_types HO205.out BK195.out (by decide)) BK196.out (by decide)) (fun _ hk => hk.1.2) (.slice Ao18 t203.length co18)) (fun _ hk => hk.2) (.slice A0_0 l0_0.length c0_0)) (fun _ hk => hk.2) (.int .i64 a0_1)) (fun _ hk => hk.2) (.slice Ao18 t203.length co18)) (fun _ hk => hk.1.1))) (fun k_ hk => by first | exact ⟨(.inr (hk.1)), hk.2⟩ | exact (.inr (hk))), bq2_ HB.out GE195.out GE196.out⟩
  ·replace c6 := Bool.eq_false_iff.mpr c6
   subst c6
   have H1 : (some (l0_0, a0_1, l0_2, 180)) = some (r1, r2, r3, r4) := by rw [if_neg (show ¬ (false = true) by decide)] at H; exact H
   clear H
   have H := H1
   clear H1
   simp only [Option.some.injEq, Prod.mk.injEq] at H
   obtain ⟨rfl, rfl, rfl, rfl⟩ := H
   go_enter Try.func17, Try.ntmps17
   go_wp2_with (first | ((with_reducible refine gate_dst (N := 2) rfl ?_); refine box_event ?hg (N := 2) ?hd (cs := #[.slice A0_0 l0_0.length c0_0, .int .i64 a0_1, .slice A0_2 l0_2.length c0_2]) (t := 25) ?hr ?_; (case hd => rfl); (case hg => rfl); (case hr => first | (go_simp; done) | (go_simp; rfl)); intro gb195 hg w21 hbox hb; have BK195 := Aside0.mk (hbox); have GW195 := Aside0.mk ((by rw [hg]; exact (below_size (bq0_ HB.out)) : w.heap.size ≤ gb195)); have GE195 := Aside0.mk ((by rw [hg]; exact (below_size (bq0_ HB.out)) : w.heap.size ≤ gb195)); replace HO0_0 := Aside0.mk (Kd.V_below (Kd.V_elderB (mvV_ HO0_0.out) gb195 (Nat.le_of_eq hg.symm)) hb); replace HO0_2 := Aside0.mk (Kd.V_below (Kd.V_elderB (mvV_ HO0_2.out) gb195 (Nat.le_of_eq hg.symm)) hb); replace HB := Aside0.mk (below_step (bq0_ HB.out) hb); clear hb hbox hg) | ((with_reducible refine gate_dst (N := 4) rfl ?_); refine box_event ?hg (N := 4) ?hd (cs := #[.slice none 0 0, .int .i64 0, .slice none 0 0]) (t := 25) ?hr ?_; (case hd => rfl); (case hg => rfl); (case hr => first | (go_simp; done) | (go_simp; rfl)); intro gb196 hg w22 hbox hb; have BK196 := Aside0.mk (hbox); have GW196 := Aside0.mk ((by rw [hg]; exact (below_size (bq1_ HB.out GE195.out)) : w.heap.size ≤ gb196)); have GE196 := Aside0.mk ((by rw [hg]; exact (below_size (bq1_ HB.out GE195.out)) : w.heap.size ≤ gb196)); have NB195_196 := Aside0.mk ((by rw [hg]; exact Nat.ne_of_lt (blk_lt (g := gb195) (o := .cells #[.slice A0_0 l0_0.length c0_0, .int .i64 a0_1, .slice A0_2 l0_2.length c0_2] 25 (0, 0)) (mvK_ BK195.out)) : gb195 ≠ gb196)); have NB196_195 := Aside0.mk ((by rw [hg]; exact Nat.ne_of_gt (blk_lt (g := gb195) (o := .cells #[.slice A0_0 l0_0.length c0_0, .int .i64 a0_1, .slice A0_2 l0_2.length c0_2] 25 (0, 0)) (mvK_ BK195.out)) : gb196 ≠ gb195)); replace HO0_0 := Aside0.mk (Kd.V_below (Kd.V_elderB (mvV_ HO0_0.out) gb196 (Nat.le_of_eq hg.symm)) hb); replace HO0_2 := Aside0.mk (Kd.V_below (Kd.V_elderB (mvV_ HO0_2.out) gb196 (Nat.le_of_eq hg.symm)) hb); replace BK195 := Aside0.mk (blk_below (g := gb195) (o := .cells #[.slice A0_0 l0_0.length c0_0, .int .i64 a0_1, .slice A0_2 l0_2.length c0_2] 25 (0, 0)) (mvK_ BK195.out) hb); replace HB := Aside0.mk (below_step (bq1_ HB.out GE195.out) hb); clear hb hbox hg; have hnb23 := NB195_196.out; have hnc23 := NB196_195.out; have hcz24_0 := hc_ BK195 0; have hcz24_1 := hc_ BK195 1; have hcz24_2 := hc_ BK195 2; have hfz24_0 := blk_frozen BK195.out 0; have hfz24_1 := blk_frozen BK195.out 1; have hfz24_2 := blk_frozen BK195.out 2) | ((with_reducible refine gate_callee (f := 9) rfl ?_); refine gL_ (some 9) Try.func9 #[.agg #[.slice A0_0 l0_0.length c0_0, .int .i64 a0_1, .slice A0_2 l0_2.length c0_2]] ?_; (with_reducible refine (store_Check.calls k _ _ l0_0 a0_1 _ _ l0_2 true _ ?side1 ?side2 ?side3 ?side4 A3.out).mono ?_); (case side1 => exact mvC_ ((Kd.V_reads' HO0_0.out).2.2)); (case side2 => exact (Kd.V_reads' HO0_0.out).2.1); (case side3 => exact mvC_ ((Kd.V_reads' HO0_2.out).2.2)); (case side4 => exact (Kd.V_reads' HO0_2.out).2.1); rintro e w25 ⟨rfl, hb⟩; refine ⟨_, rfl, ?_⟩; replace HO0_0 := Aside0.mk (Kd.V_below (mvV_ HO0_0.out) hb); replace HO0_2 := Aside0.mk (Kd.V_below (mvV_ HO0_2.out) hb); replace BK195 := Aside0.mk (blk_below (g := gb195) (o := .cells #[.slice A0_0 l0_0.length c0_0, .int .i64 a0_1, .slice A0_2 l0_2.length c0_2] 25 (0, 0)) (mvK_ BK195.out) hb); replace BK196 := Aside0.mk (blk_below (g := gb196) (o := .cells #[.slice none 0 0, .int .i64 0, .slice none 0 0] 25 (0, 0)) (mvK_ BK196.out) hb); replace HB := Aside0.mk (below_step (bq2_ HB.out GE195.out GE196.out) hb); (try clear hb); have hcz26_0 := hc_ BK195 0; have hcz26_1 := hc_ BK195 1; have hcz26_2 := hc_ BK195 2; have hfz26_0 := blk_frozen BK195.out 0; have hfz26_1 := blk_frozen BK195.out 1; have hfz26_2 := blk_frozen BK195.out 2) | ((with_reducible refine gate_callee (f := 32) rfl ?_); refine gL_ (some 16) Try.func32 #[.slice A0_2 l0_2.length c0_2, .int .i64 a1] ?_; (with_reducible refine (slices_BinarySearch_int_int.calls k _ _ l0_2 a1 t198 false _ ?side1 ?side2 A5.out).mono ?_); (case side1 => exact mvC_ ((Kd.V_reads' HO0_2.out).2.2)); (case side2 => exact (Kd.V_reads' HO0_2.out).2.1); rintro e w' ⟨rfl, ⟨nd, rfl⟩⟩; refine ⟨_, rfl, ?_⟩; (try (rw [drewN_self w25]; generalize hq_ : World.drewN w25 _ = w25; have n0_ := Aside0.mk (show Kd.V (Kd.slice 74 k74) 54 w25 w.heap.size _ (.slice A0_0 l0_0.length c0_0) l0_0 from by rw [← hq_]; exact Kd.V_drewN HO0_0.out _); have n1_ := Aside0.mk (show Kd.V (Kd.int .i64) 3 w25 w.heap.size _ (.slice A0_2 l0_2.length c0_2) l0_2 from by rw [← hq_]; exact Kd.V_drewN HO0_2.out _); have n2_ : Aside0 (w25.heap[gb195]? = some (.cells #[.slice A0_0 l0_0.length c0_0, .int .i64 a0_1, .slice A0_2 l0_2.length c0_2] 25 (0, 0))) := ⟨by rw [← hq_]; exact (mvK_ BK195.out)⟩; have n3_ : Aside0 (w25.heap[gb196]? = some (.cells #[.slice none 0 0, .int .i64 0, .slice none 0 0] 25 (0, 0))) := ⟨by rw [← hq_]; exact (mvK_ BK196.out)⟩; have n4_ : Aside0 (Below w.heap.size w w25) := ⟨by rw [← hq_]; exact (bq2_ HB.out GE195.out GE196.out)⟩; clear HO0_0 HO0_2 BK195 BK196 HB hq_; have HO0_0 := n0_; have HO0_2 := n1_; have BK195 := n2_; have BK196 := n3_; have HB := n4_; clear n0_ n1_ n2_ n3_ n4_)); have hcz26_0q := hc_ BK195 0; have hcz26_1q := hc_ BK195 1; have hcz26_2q := hc_ BK195 2; have hfz24_0q := blk_frozen BK195.out 0; have hfz24_1q := blk_frozen BK195.out 1; have hfz24_2q := blk_frozen BK195.out 2; have hfz26_0q := blk_frozen BK195.out 0; have hfz26_1q := blk_frozen BK195.out 1; have hfz26_2q := blk_frozen BK195.out 2; have hcz27_0 := hc_ BK196 0; have hcz27_1 := hc_ BK196 1; have hcz27_2 := hc_ BK196 2; have hfz27_0 := blk_frozen BK196.out 0; have hfz27_1 := blk_frozen BK196.out 1; have hfz27_2 := blk_frozen BK196.out 2))
   refine bodyPost_ret (results_ct rfl _ _ gb196 25 #[.slice A0_0 l0_0.length c0_0, .int .i64 a0_1, .slice A0_2 l0_2.length c0_2] (0, 0) _ rfl (by (with_reducible repeat (first | refine blk_drewN ?_ _ | refine blk_drew ?_ | refine blk_alloc ?_ _)); refine blk_put (cs := #[.slice A0_0 l0_0.length c0_0, .int .i64 a0_1, .slice none 0 0]) ?_ 2 _ rfl; (with_reducible repeat (first | refine blk_drewN ?_ _ | refine blk_drew ?_ | refine blk_alloc ?_ _)); refine blk_put (cs := #[.slice A0_0 l0_0.length c0_0, .int .i64 0, .slice none 0 0]) ?_ 1 _ rfl; (with_reducible repeat (first | refine blk_drewN ?_ _ | refine blk_drew ?_ | refine blk_alloc ?_ _)); refine blk_put (cs := #[.slice none 0 0, .int .i64 0, .slice none 0 0]) ?_ 0 _ rfl; (with_reducible repeat (first | refine blk_drewN ?_ _ | refine blk_drew ?_ | refine blk_alloc ?_ _)); exact BK196.out) Try.underlying25 rfl (by kernel_rfl)) rfl ?_
   exact ⟨_, _, by first | rfl | (simp <;> rfl) | (simp [*] <;> rfl), by (with_reducible repeat (first | apply Kd.V_alloc | apply Kd.V_drewN | apply Kd.V_drew)); exact Kd.V_mono (Kd.V_far (p := ⟨gb196, 2, none⟩) (Kd.V_far (p := ⟨gb196, 1, none⟩) (Kd.V_far (p := ⟨gb196, 0, none⟩) (Kd.V_mono HO0_0.out (fun k_ hk => (⟨hk, hk.2⟩ : _ ∧ k_ ≠ gb196))) (fun _ hk => hk.2) (.slice A0_0 l0_0.length c0_0)) (fun _ hk => hk.2) (.int .i64 a0_1)) (fun _ hk => hk.2) (.slice A0_2 l0_2.length c0_2)) (fun _ hk => hk.1.1.1), by (with_reducible repeat (first | apply Kd.V_alloc | apply Kd.V_drewN | apply Kd.V_drew)); exact Kd.V_mono (Kd.V_far (p := ⟨gb196, 2, none⟩) (Kd.V_far (p := ⟨gb196, 1, none⟩) (Kd.V_far (p := ⟨gb196, 0, none⟩) (Kd.V_mono HO0_2.out (fun k_ hk => (⟨hk, hk.2⟩ : _ ∧ k_ ≠ gb196))) (fun _ hk => hk.2) (.slice A0_0 l0_0.length c0_0)) (fun _ hk => hk.2) (.int .i64 a0_1)) (fun _ hk => hk.2) (.slice A0_2 l0_2.length c0_2)) (fun _ hk => hk.1.1.1), bq2_ HB.out GE195.out GE196.out⟩
 ·replace c4 := Bool.eq_false_iff.mpr c4
  subst c4
  have H1 : (some (l0_0, a0_1, l0_2, 1)) = some (r1, r2, r3, r4) := by rw [if_neg (show ¬ (false = true) by decide)] at H; exact H
  clear H
  have H := H1
  clear H1
  simp only [Option.some.injEq, Prod.mk.injEq] at H
  obtain ⟨rfl, rfl, rfl, rfl⟩ := H
  go_enter Try.func17, Try.ntmps17
  go_wp2_with (first | ((with_reducible refine gate_dst (N := 2) rfl ?_); refine box_event ?hg (N := 2) ?hd (cs := #[.slice A0_0 l0_0.length c0_0, .int .i64 a0_1, .slice A0_2 l0_2.length c0_2]) (t := 25) ?hr ?_; (case hd => rfl); (case hg => rfl); (case hr => first | (go_simp; done) | (go_simp; rfl)); intro gb195 hg w28 hbox hb; have BK195 := Aside0.mk (hbox); have GW195 := Aside0.mk ((by rw [hg]; exact (below_size (bq0_ HB.out)) : w.heap.size ≤ gb195)); have GE195 := Aside0.mk ((by rw [hg]; exact (below_size (bq0_ HB.out)) : w.heap.size ≤ gb195)); replace HO0_0 := Aside0.mk (Kd.V_below (Kd.V_elderB (mvV_ HO0_0.out) gb195 (Nat.le_of_eq hg.symm)) hb); replace HO0_2 := Aside0.mk (Kd.V_below (Kd.V_elderB (mvV_ HO0_2.out) gb195 (Nat.le_of_eq hg.symm)) hb); replace HB := Aside0.mk (below_step (bq0_ HB.out) hb); clear hb hbox hg) | ((with_reducible refine gate_dst (N := 4) rfl ?_); refine box_event ?hg (N := 4) ?hd (cs := #[.slice none 0 0, .int .i64 0, .slice none 0 0]) (t := 25) ?hr ?_; (case hd => rfl); (case hg => rfl); (case hr => first | (go_simp; done) | (go_simp; rfl)); intro gb196 hg w29 hbox hb; have BK196 := Aside0.mk (hbox); have GW196 := Aside0.mk ((by rw [hg]; exact (below_size (bq1_ HB.out GE195.out)) : w.heap.size ≤ gb196)); have GE196 := Aside0.mk ((by rw [hg]; exact (below_size (bq1_ HB.out GE195.out)) : w.heap.size ≤ gb196)); have NB195_196 := Aside0.mk ((by rw [hg]; exact Nat.ne_of_lt (blk_lt (g := gb195) (o := .cells #[.slice A0_0 l0_0.length c0_0, .int .i64 a0_1, .slice A0_2 l0_2.length c0_2] 25 (0, 0)) (mvK_ BK195.out)) : gb195 ≠ gb196)); have NB196_195 := Aside0.mk ((by rw [hg]; exact Nat.ne_of_gt (blk_lt (g := gb195) (o := .cells #[.slice A0_0 l0_0.length c0_0, .int .i64 a0_1, .slice A0_2 l0_2.length c0_2] 25 (0, 0)) (mvK_ BK195.out)) : gb196 ≠ gb195)); replace HO0_0 := Aside0.mk (Kd.V_below (Kd.V_elderB (mvV_ HO0_0.out) gb196 (Nat.le_of_eq hg.symm)) hb); replace HO0_2 := Aside0.mk (Kd.V_below (Kd.V_elderB (mvV_ HO0_2.out) gb196 (Nat.le_of_eq hg.symm)) hb); replace BK195 := Aside0.mk (blk_below (g := gb195) (o := .cells #[.slice A0_0 l0_0.length c0_0, .int .i64 a0_1, .slice A0_2 l0_2.length c0_2] 25 (0, 0)) (mvK_ BK195.out) hb); replace HB := Aside0.mk (below_step (bq1_ HB.out GE195.out) hb); clear hb hbox hg; have hnb30 := NB195_196.out; have hnc30 := NB196_195.out; have hcz31_0 := hc_ BK195 0; have hcz31_1 := hc_ BK195 1; have hcz31_2 := hc_ BK195 2; have hfz31_0 := blk_frozen BK195.out 0; have hfz31_1 := blk_frozen BK195.out 1; have hfz31_2 := blk_frozen BK195.out 2) | ((with_reducible refine gate_callee (f := 9) rfl ?_); refine gL_ (some 9) Try.func9 #[.agg #[.slice A0_0 l0_0.length c0_0, .int .i64 a0_1, .slice A0_2 l0_2.length c0_2]] ?_; (with_reducible refine (store_Check.calls k _ _ l0_0 a0_1 _ _ l0_2 false _ ?side1 ?side2 ?side3 ?side4 A3.out).mono ?_); (case side1 => exact mvC_ ((Kd.V_reads' HO0_0.out).2.2)); (case side2 => exact (Kd.V_reads' HO0_0.out).2.1); (case side3 => exact mvC_ ((Kd.V_reads' HO0_2.out).2.2)); (case side4 => exact (Kd.V_reads' HO0_2.out).2.1); rintro e w32 ⟨rfl, hb⟩; refine ⟨_, rfl, ?_⟩; replace HO0_0 := Aside0.mk (Kd.V_below (mvV_ HO0_0.out) hb); replace HO0_2 := Aside0.mk (Kd.V_below (mvV_ HO0_2.out) hb); replace BK195 := Aside0.mk (blk_below (g := gb195) (o := .cells #[.slice A0_0 l0_0.length c0_0, .int .i64 a0_1, .slice A0_2 l0_2.length c0_2] 25 (0, 0)) (mvK_ BK195.out) hb); replace BK196 := Aside0.mk (blk_below (g := gb196) (o := .cells #[.slice none 0 0, .int .i64 0, .slice none 0 0] 25 (0, 0)) (mvK_ BK196.out) hb); replace HB := Aside0.mk (below_step (bq2_ HB.out GE195.out GE196.out) hb); (try clear hb); have hcz33_0 := hc_ BK195 0; have hcz33_1 := hc_ BK195 1; have hcz33_2 := hc_ BK195 2; have hfz33_0 := blk_frozen BK195.out 0; have hfz33_1 := blk_frozen BK195.out 1; have hfz33_2 := blk_frozen BK195.out 2; have hcz34_0 := hc_ BK196 0; have hcz34_1 := hc_ BK196 1; have hcz34_2 := hc_ BK196 2; have hfz34_0 := blk_frozen BK196.out 0; have hfz34_1 := blk_frozen BK196.out 1; have hfz34_2 := blk_frozen BK196.out 2))
  refine bodyPost_ret (results_ct rfl _ _ gb196 25 #[.slice A0_0 l0_0.length c0_0, .int .i64 a0_1, .slice A0_2 l0_2.length c0_2] (0, 0) _ rfl (by (with_reducible repeat (first | refine blk_drewN ?_ _ | refine blk_drew ?_ | refine blk_alloc ?_ _)); refine blk_put (cs := #[.slice A0_0 l0_0.length c0_0, .int .i64 a0_1, .slice none 0 0]) ?_ 2 _ rfl; (with_reducible repeat (first | refine blk_drewN ?_ _ | refine blk_drew ?_ | refine blk_alloc ?_ _)); refine blk_put (cs := #[.slice A0_0 l0_0.length c0_0, .int .i64 0, .slice none 0 0]) ?_ 1 _ rfl; (with_reducible repeat (first | refine blk_drewN ?_ _ | refine blk_drew ?_ | refine blk_alloc ?_ _)); refine blk_put (cs := #[.slice none 0 0, .int .i64 0, .slice none 0 0]) ?_ 0 _ rfl; (with_reducible repeat (first | refine blk_drewN ?_ _ | refine blk_drew ?_ | refine blk_alloc ?_ _)); exact BK196.out) Try.underlying25 rfl (by kernel_rfl)) rfl ?_
  exact ⟨_, _, by first | rfl | (simp <;> rfl) | (simp [*] <;> rfl), by (with_reducible repeat (first | apply Kd.V_alloc | apply Kd.V_drewN | apply Kd.V_drew)); exact Kd.V_mono (Kd.V_far (p := ⟨gb196, 2, none⟩) (Kd.V_far (p := ⟨gb196, 1, none⟩) (Kd.V_far (p := ⟨gb196, 0, none⟩) (Kd.V_mono HO0_0.out (fun k_ hk => (⟨hk, hk.2⟩ : _ ∧ k_ ≠ gb196))) (fun _ hk => hk.2) (.slice A0_0 l0_0.length c0_0)) (fun _ hk => hk.2) (.int .i64 a0_1)) (fun _ hk => hk.2) (.slice A0_2 l0_2.length c0_2)) (fun _ hk => hk.1.1.1), by (with_reducible repeat (first | apply Kd.V_alloc | apply Kd.V_drewN | apply Kd.V_drew)); exact Kd.V_mono (Kd.V_far (p := ⟨gb196, 2, none⟩) (Kd.V_far (p := ⟨gb196, 1, none⟩) (Kd.V_far (p := ⟨gb196, 0, none⟩) (Kd.V_mono HO0_2.out (fun k_ hk => (⟨hk, hk.2⟩ : _ ∧ k_ ≠ gb196))) (fun _ hk => hk.2) (.slice A0_0 l0_0.length c0_0)) (fun _ hk => hk.2) (.int .i64 a0_1)) (fun _ hk => hk.2) (.slice A0_2 l0_2.length c0_2)) (fun _ hk => hk.1.1.1), bq2_ HB.out GE195.out GE196.out⟩
def L19_0 : Array Bool := #[false, false, false, false, false, false, false, false, false, false]
def L19_1 : Array Bool := #[true, false, false, false, false, false, false, false, false, false]
def L19_2 : Array Bool := #[true, false, true, false, false, false, false, false, false, false]
def L19_3 : Array Bool := #[true, true, true, false, false, false, false, false, false, false]
def L19_4 : Array Bool := #[true, true, true, true, false, false, false, false, false, false]
def L19_5 : Array Bool := #[true, true, true, true, true, false, false, false, false, false]
def L19_6 : Array Bool := #[true, true, true, true, true, true, false, false, false, false]
def L19_7 : Array Bool := #[true, true, true, true, true, true, true, false, false, false]
def L19_8 : Array Bool := #[true, true, true, true, true, true, true, true, false, false]
def L19_9 : Array Bool := #[true, true, true, true, true, true, true, true, true, false]
def L19_10 : Array Bool := #[true, true, true, true, true, true, true, true, true, true]
def store_New.l0 : Nat → List (S37) → Int → Int → List (List (S74)) → Int → Option ((List (List (S74))) × Int × List Int × Int)
 | 0, _, _, _, _, _ => none
 | k + 1, x13, x14, x15, x211000, x211001 => if x15 < x14 then (if 0 ≤ x15 then (if x15 < (x13.length : Int) then (if (wrap64 ((((rd_T37 x13 x15).f0).length : Int) + (((rd_T37 x13 x15).f1).length : Int))) = 0 then (store_New.l0 k x13 x14 (wrap64 (x15 + 1)) x211000 x211001) else ((tensor_Check.f k ((rd_T37 x13 x15).f0) ((rd_T37 x13 x15).f1)).bind fun t213 => (if t213 = true then ((chain_Put.f k ([] : List (S74)) 0 ((rd_T37 x13 x15).f0) ((rd_T37 x13 x15).f1)).bind fun bt214 => (if x15 < (x211000.length : Int) then (store_New.l0 k x13 x14 (wrap64 (x15 + 1)) (x211000.set (x15 : Int).toNat bt214.1) x211001) else (none))) else (some (([] : List (List (S74))), 0, ([] : List Int), 30))))) else (none)) else (none)) else (some (x211000, x211001, ([] : List Int), 0))
def store_New.f (k : Nat) (l0 : List (S37)) : Option ((List (List (S74))) × Int × List Int × Int) := if (l0.length : Int) > 8 then (some (([] : List (List (S74))), 0, ([] : List Int), 1)) else (store_New.l0 k l0 (l0.length : Int) 0 (List.replicate 8 []) 0)
theorem store_New.mono_l : ∀ k, (∀ y0 y1 y2 y3 y4, LeO (store_New.l0 k y0 y1 y2 y3 y4) (store_New.l0 (k + 1) y0 y1 y2 y3 y4))
 | 0 => fun _ _ _ _ _ r h => by simp [store_New.l0] at h
 | k + 1 => by
  have ih0 := store_New.mono_l k
  ·intro y0 y1 y2 y3 y4
   unfold store_New.l0
   repeat' first
    | (with_reducible first | exact ih0 _ _ _ _ _ | exact chain_Put.mono _ _ _ _ _ | exact tensor_Check.mono _ _ _ | exact LeO.refl _ | exact LeO.none _ | refine LeO.ite ?_ ?_ | refine LeO.bind ?_ (fun _ => ?_))
    | first | exact ih0 _ _ _ _ _ | exact chain_Put.mono _ _ _ _ _ | exact tensor_Check.mono _ _ _ | exact LeO.none _ | refine LeO.ite ?_ ?_ | refine LeO.bind ?_ (fun _ => ?_)
theorem store_New.mono : ∀ a0 k, LeO (store_New.f k a0) (store_New.f (k + 1) a0) := by
 intro a0 k
 have ih0 := store_New.mono_l k
 unfold store_New.f
 repeat' first
  | (with_reducible first | exact ih0 _ _ _ _ _ | exact chain_Put.mono _ _ _ _ _ | exact tensor_Check.mono _ _ _ | exact LeO.refl _ | exact LeO.none _ | refine LeO.ite ?_ ?_ | refine LeO.bind ?_ (fun _ => ?_))
  | first | exact ih0 _ _ _ _ _ | exact chain_Put.mono _ _ _ _ _ | exact tensor_Check.mono _ _ _ | exact LeO.none _ | refine LeO.ite ?_ ?_ | refine LeO.bind ?_ (fun _ => ?_)
def store_New.T10 : Bool × List (List Nat × List Nat) := (true, [([], []), ([0], [0]), ([], []), ([], []), ([3], [3]), ([4], [4]), ([5], [5]), ([5], [5]), ([1, 2, 0, 1, 2, 3, 4, 5, 6], [1, 2]), ([8, 6, 4, 0, 1, 2, 3, 4, 5, 6], [6, 8])])
def store_New.B10 : List Nat := [0, 1, 0, 0, 8, 24, 56, 56, 127, 383]
theorem store_New.tab10 : rtab .any (opsOf Try.f19 10) = store_New.T10 := by kernel_rfl
theorem store_New.bits10 : waitsOk store_New.T10.2 store_New.B10 = true := by kernel_rfl
set_option maxHeartbeats 8000000 in
set_option maxRecDepth 100000 in
theorem store_New.calls (k : Nat) (A0 : Option Addr) (c0 : Nat) (l0 : List (S37)) (r1 : List (List (S74))) (r2 : Int) (r3 : List Int) (r4 : Int) (w : World) (hr0 : Kd.C k37 w A0 l0.length l0) (hc0 : l0.length ≤ c0) (h : store_New.f k l0 = some (r1, r2, r3, r4)) :
  Calls Try.prog 19 #[.slice A0 l0.length c0] w fun e w' => ∃ v0_ v2_ : Value, e = .returned (.tuple #[.agg #[v0_, .int .i64 r2, v2_], .int .i64 r4]) ∧ Kd.N (Kd.slice 74 k74) 54 w' w.heap.size (fun k_ => (w.heap.size ≤ k_) ∧ some k_ ≠ (v2_ : Value).ownBlock) v0_ r1 ∧ Kd.R (Kd.int .i64) 3 w' w.heap.size (fun k_ => (w.heap.size ≤ k_)) v2_ r3 ∧ Below w.heap.size w w' := by
 have hu25 := Try.underlying25
 have hu37 := Try.underlying37
 have HR0 := Aside0.mk hr0
 have HC0 := Aside0.mk hc0
 clear hr0 hc0
 have HB := Aside0.mk (Below.refl w.heap.size w)
 have H : (if (l0.length : Int) > 8 then (some (([] : List (List (S74))), 0, ([] : List Int), 1)) else (store_New.l0 k l0 (l0.length : Int) 0 (List.replicate 8 []) 0)) = some (r1, r2, r3, r4) := h
 clear h
 by_cases c2 : (l0.length : Int) > 8
 ·rw [if_pos c2] at H
  have c2b0 : decide (8 < (l0.length : Int)) = true := decide_eq_true c2
  have c2b1 : decide (8 < l0.length) = true := decide_eq_true (by omega)
  clear c2
  simp only [Option.some.injEq, Prod.mk.injEq] at H
  obtain ⟨rfl, rfl, rfl, rfl⟩ := H
  go_enter Try.func19, Try.ntmps19
  go_wp2_with (first | ((with_reducible refine gate_dst (N := 2) rfl ?_); refine box_event ?hg (N := 2) ?hd (cs := #[.slice none 0 0, .int .i64 0, .slice none 0 0]) (t := 25) ?hr ?_; (case hd => rfl); (case hg => rfl); (case hr => first | (go_simp; done) | (go_simp; rfl)); intro gb206 hg w3 hbox hb; have BK206 := Aside0.mk (hbox); have GW206 := Aside0.mk ((by rw [hg]; exact (below_size (bq0_ HB.out)) : w.heap.size ≤ gb206)); have GE206 := Aside0.mk ((by rw [hg]; exact (below_size (bq0_ HB.out)) : w.heap.size ≤ gb206)); replace HB := Aside0.mk (below_step (bq0_ HB.out) hb); clear hb hbox hg; have hcz4_0 := hc_ BK206 0; have hcz4_1 := hc_ BK206 1; have hcz4_2 := hc_ BK206 2; have hfz4_0 := blk_frozen BK206.out 0; have hfz4_1 := blk_frozen BK206.out 1; have hfz4_2 := blk_frozen BK206.out 2))
  refine bodyPost_ret (results_ct rfl _ _ gb206 25 #[.slice none 0 0, .int .i64 0, .slice none 0 0] (0, 0) _ rfl (by (with_reducible repeat (first | refine blk_drewN ?_ _ | refine blk_drew ?_ | refine blk_alloc ?_ _)); refine blk_put (cs := #[.slice none 0 0, .int .i64 0, .slice none 0 0]) ?_ 2 _ rfl; (with_reducible repeat (first | refine blk_drewN ?_ _ | refine blk_drew ?_ | refine blk_alloc ?_ _)); refine blk_put (cs := #[.slice none 0 0, .int .i64 0, .slice none 0 0]) ?_ 1 _ rfl; (with_reducible repeat (first | refine blk_drewN ?_ _ | refine blk_drew ?_ | refine blk_alloc ?_ _)); refine blk_put (cs := #[.slice none 0 0, .int .i64 0, .slice none 0 0]) ?_ 0 _ rfl; (with_reducible repeat (first | refine blk_drewN ?_ _ | refine blk_drew ?_ | refine blk_alloc ?_ _)); exact BK206.out) Try.underlying25 rfl (by kernel_rfl)) rfl ?_
  exact ⟨_, _, by first | rfl | (simp <;> rfl) | (simp [*] <;> rfl), by first | exact Kd.R_nil _ _ _ _ _ | exact Kd.N_nil _ _ _ _ _ | exact Kd.V_nil _ _ _ _ _ | exact Kd.Q_nil _ _ _ _ _ | exact Kd.S_nil _ _ _ _ _, by first | exact Kd.R_nil _ _ _ _ _ | exact Kd.N_nil _ _ _ _ _ | exact Kd.V_nil _ _ _ _ _ | exact Kd.Q_nil _ _ _ _ _ | exact Kd.S_nil _ _ _ _ _, bq1_ HB.out GE206.out⟩
 ·rw [if_neg c2] at H
  have c2b0 : decide (8 < (l0.length : Int)) = false := decide_eq_false c2
  have c2b1 : decide (8 < l0.length) = false := decide_eq_false (by omega)
  clear c2
  obtain ⟨y207, hy207⟩ : ∃ y_ : List (List (S74)), y_ = (List.replicate 8 []) := ⟨_, rfl⟩
  replace H : (store_New.l0 k l0 (l0.length : Int) 0 y207 0) = some (r1, r2, r3, r4) := by first | (rw [hy207]; with_reducible exact H) | (have H2_ := (Option.bind_some _ _).symm.trans H; rw [hy207]; with_reducible exact H2_) | (have H2_ := (Option.bind_some _ _).symm.trans H; with_reducible exact H2_) | with_reducible exact H | (rw [hy207]; exact H) | exact H
  have Ny207 := Aside0.mk hy207
  clear hy207
  have H' := Aside0.mk H
  clear H
  go_enter Try.func19, Try.ntmps19
  go_wp2_with (first | ((with_reducible refine gate_dst (N := 2) rfl ?_); refine box_event ?hg (N := 2) ?hd (cs := #[.slice none 0 0, .int .i64 0, .slice none 0 0]) (t := 25) ?hr ?_; (case hd => rfl); (case hg => rfl); (case hr => first | (go_simp; done) | (go_simp; rfl)); intro gb206 hg w5 hbox hb; have BK206 := Aside0.mk (hbox); have GW206 := Aside0.mk ((by rw [hg]; exact (below_size (bq0_ HB.out)) : w.heap.size ≤ gb206)); have GE206 := Aside0.mk ((by rw [hg]; exact (below_size (bq0_ HB.out)) : w.heap.size ≤ gb206)); replace HB := Aside0.mk (below_step (bq0_ HB.out) hb); clear hb hbox hg) | ((with_reducible refine gate_dst (N := 11) rfl ?_); refine Kd.N_make (Kd.slice 74 k74) _ 54 rfl (N' := 11) rfl 22 _ _ rfl 8 rfl rfl Try.underlying22 (.slice none 0 0) 24 info54 rfl (by decide) (by omega) [] (ok := fun k_ => w5.heap.size ≤ k_) (okp := fun _ => False) (Kd.FK_slice_mk (Nat.le_refl _) (Kd.F_nil _ _ _)) (fun _ hk => hk.elim) (Nat.le_refl _) (by omega) (by omega) (Below.refl _ _) (Nat.le_refl _) ?_; intro v208 w6 ho7 hb hg_ hnew_; clear hg_ hnew_; (first | rw [← Ny207.out] at ho7 | (simp only [Int.reduceToNat] at ho7; rw [← Ny207.out] at ho7)); have HO209 := Aside0.mk (Kd.N_lower (Kd.N_mono (ok' := fun k_ => (w.heap.size ≤ k_) ∧ k_ ≠ gb206) ho7 (fun k_ hk_ => ⟨(Nat.le_trans (below_size (bq1_ HB.out GE206.out)) hk_), (Kd.freshB (g := gb206) (o := .cells #[.slice none 0 0, .int .i64 0, .slice none 0 0] 25 (0, 0)) (mvK_ BK206.out) k_ hk_)⟩)) (below_size (bq1_ HB.out GE206.out))); replace BK206 := Aside0.mk (blk_below (g := gb206) (o := .cells #[.slice none 0 0, .int .i64 0, .slice none 0 0] 25 (0, 0)) (mvK_ BK206.out) hb); replace HB := Aside0.mk (below_step (bq1_ HB.out GE206.out) hb); clear hb ho7; obtain ⟨Ao8, co8, eo8⟩ := Kd.N_slice HO209.out; subst eo8) | ((with_reducible refine gate_dst (N := 4) rfl ?_); refine box_event ?hg (N := 4) ?hd (cs := #[.slice none 0 0, .int .i64 0, .slice none 0 0]) (t := 25) ?hr ?_; (case hd => rfl); (case hg => rfl); (case hr => first | (go_simp; done) | (go_simp; rfl)); intro gb210 hg w9 hbox hb; have BK210 := Aside0.mk (hbox); have GW210 := Aside0.mk ((by rw [hg]; exact (below_size (bq1_ HB.out GE206.out)) : w.heap.size ≤ gb210)); have GE210 := Aside0.mk ((by rw [hg]; exact (below_size (bq1_ HB.out GE206.out)) : w.heap.size ≤ gb210)); have NB206_210 := Aside0.mk ((by rw [hg]; exact Nat.ne_of_lt (blk_lt (g := gb206) (o := .cells #[.slice none 0 0, .int .i64 0, .slice none 0 0] 25 (0, 0)) (mvK_ BK206.out)) : gb206 ≠ gb210)); have NB210_206 := Aside0.mk ((by rw [hg]; exact Nat.ne_of_gt (blk_lt (g := gb206) (o := .cells #[.slice none 0 0, .int .i64 0, .slice none 0 0] 25 (0, 0)) (mvK_ BK206.out)) : gb210 ≠ gb206)); replace HO209 := Aside0.mk (Kd.N_below (Kd.N_elderB (mvN_ HO209.out) gb210 (Nat.le_of_eq hg.symm)) hb); replace BK206 := Aside0.mk (blk_below (g := gb206) (o := .cells #[.slice none 0 0, .int .i64 0, .slice none 0 0] 25 (0, 0)) (mvK_ BK206.out) hb); replace HB := Aside0.mk (below_step (bq1_ HB.out GE206.out) hb); clear hb hbox hg; have hnb10 := NB210_206.out; have hnc10 := NB206_210.out; have hcz11_0 := hc_ BK210 0; have hcz11_1 := hc_ BK210 1; have hcz11_2 := hc_ BK210 2; have hfz11_0 := blk_frozen BK210.out 0; have hfz11_1 := blk_frozen BK210.out 1; have hfz11_2 := blk_frozen BK210.out 2))
  go_loopg [15] k (fun kq v15 w' => ∃ (x15_1 : Int) (x207001_1 : Int) (x211000_1 : List (List (S74))) (u211000 : Value), v15 = .int .i64 x15_1 ∧ Aside0 (store_New.l0 kq l0 (l0.length : Int) x15_1 x211000_1 0 = some (r1, r2, r3, r4)) ∧ Aside0 (kq ≤ k) ∧ Aside0 (Kd.N (Kd.slice 74 k74) 54 w' w.heap.size (fun k_ => (w.heap.size ≤ k_) ∧ k_ ≠ gb206 ∧ k_ ≠ gb210) u211000 x211000_1) ∧ Aside0 (w'.heap[gb206]? = some (.cells #[(.slice none 0 0), .int .i64 x207001_1, (.slice none 0 0)] 25 (0, 0))) ∧ Aside0 (w'.heap[gb210]? = some (.cells #[u211000, .int .i64 0, (.slice none 0 0)] 25 (0, 0))) ∧ Aside0 (Below w.heap.size w w'))
  case atStart => exact ⟨(0), (0), (y207), (.slice Ao8 y207.length co8), (by first | rfl | (simp; done) | (simp [*]; done)), H', ⟨Nat.le_refl _⟩, ⟨by (with_reducible repeat (first | apply Kd.N_alloc | apply Kd.N_drewN | apply Kd.N_drew)); exact Kd.N_mono (Kd.N_far (p := ⟨gb210, 2, none⟩) (Kd.N_far (p := ⟨gb210, 1, none⟩) (Kd.N_far (p := ⟨gb210, 0, none⟩) (Kd.N_mono HO209.out (fun k_ hk => (⟨hk, hk.2⟩ : _ ∧ k_ ≠ gb210))) (fun _ hk => hk.2) (.slice Ao8 y207.length co8)) (fun _ hk => hk.2) (.int .i64 0)) (fun _ hk => hk.2) (.slice none 0 0)) (fun _ hk => ⟨hk.1.1.1, ⟨hk.1.1.2, hk.1.2⟩⟩)⟩, ⟨by (with_reducible repeat (first | refine blk_drewN ?_ _ | refine blk_drew ?_ | refine blk_alloc ?_ _)); refine blk_far ?_ NB206_210.out _; (with_reducible repeat (first | refine blk_drewN ?_ _ | refine blk_drew ?_ | refine blk_alloc ?_ _)); refine blk_far ?_ NB206_210.out _; (with_reducible repeat (first | refine blk_drewN ?_ _ | refine blk_drew ?_ | refine blk_alloc ?_ _)); refine blk_far ?_ NB206_210.out _; (with_reducible repeat (first | refine blk_drewN ?_ _ | refine blk_drew ?_ | refine blk_alloc ?_ _)); exact BK206.out⟩, ⟨by (with_reducible repeat (first | refine blk_drewN ?_ _ | refine blk_drew ?_ | refine blk_alloc ?_ _)); refine blk_put (cs := #[.slice Ao8 y207.length co8, .int .i64 0, .slice none 0 0]) ?_ 2 _ rfl; (with_reducible repeat (first | refine blk_drewN ?_ _ | refine blk_drew ?_ | refine blk_alloc ?_ _)); refine blk_put (cs := #[.slice Ao8 y207.length co8, .int .i64 0, .slice none 0 0]) ?_ 1 _ rfl; (with_reducible repeat (first | refine blk_drewN ?_ _ | refine blk_drew ?_ | refine blk_alloc ?_ _)); refine blk_put (cs := #[.slice none 0 0, .int .i64 0, .slice none 0 0]) ?_ 0 _ rfl; (with_reducible repeat (first | refine blk_drewN ?_ _ | refine blk_drew ?_ | refine blk_alloc ?_ _)); exact BK210.out⟩, ⟨bq2_ HB.out GE206.out GE210.out⟩⟩
  case round =>
   clear H'
   try clear c1
   try clear c2
   try clear c2b0
   try clear c2b1
   try clear p2
   try clear c10
   try clear hcz11_0
   try clear hcz11_1
   try clear hcz11_2
   try clear hcz4_0
   try clear hcz4_1
   try clear hcz4_2
   try clear hfz11_0
   try clear hfz11_1
   try clear hfz11_2
   try clear hfz4_0
   try clear hfz4_1
   try clear hfz4_2
   obtain ⟨x15_1, x207001_1, x211000_1, u211000, rfl, HA, HK1, HO_211000, BK206, BK210, HB⟩ := hrel
   cases gk with
   | zero => exact absurd HA.out (by simp [store_New.l0])
   | succ k1 =>
    have H := HA.out
    clear HA
    simp only [store_New.l0] at H
    by_cases c12 : x15_1 < (l0.length : Int)
    ·rw [if_pos c12] at H
     have c12b0 : decide (x15_1 < (l0.length : Int)) = true := decide_eq_true c12
     clear c12
     by_cases c13 : 0 ≤ x15_1
     ·rw [if_pos c13] at H
      have c13b0 : decide (0 ≤ x15_1) = true := decide_eq_true c13
      clear c13
      by_cases c14 : x15_1 < (l0.length : Int)
      ·rw [if_pos c14] at H
       have c14b0 : decide (x15_1 < (l0.length : Int)) = true := decide_eq_true c14
       clear c14
       by_cases c15 : (wrap64 ((((rd_T37 l0 x15_1).f0).length : Int) + (((rd_T37 l0 x15_1).f1).length : Int))) = 0
       ·rw [if_pos c15] at H
        obtain ⟨c15b0, c15b1⟩ := eqT_ c15
        clear c15
        have H' := Aside0.mk H
        clear H
        have p211 : 0 ≤ (x15_1 : Int) := od_
        have q211 : x15_1 < (l0.length : Int) := od_
        obtain ⟨ad211, A211_0, c211_0, A211_1, c211_1, e211, hx211_0, hx211_1, hl211_0, hi211_0, hl211_1, hi211_1⟩ := at_T37 HR0.out x15_1 p211 q211
        cases e211
        replace hx211_0 := hb_ HB hx211_0
        replace hx211_1 := hb_ HB hx211_1
        have HR211_0 := Aside0.mk hi211_0
        have HC211_0 := Aside0.mk hl211_0
        clear hi211_0 hl211_0
        have HR211_1 := Aside0.mk hi211_1
        have HC211_1 := Aside0.mk hl211_1
        clear hi211_1 hl211_1
        replace p211 := eq_true p211
        replace q211 := eq_true q211
        go_wp2_with (first | ((with_reducible refine gate_dst (N := 6) rfl ?_); refine box_event ?hg (N := 6) ?hd (cs := #[.slice none 0 0, .slice none 0 0]) (t := 37) ?hr ?_; (case hd => rfl); (case hg => rfl); (case hr => first | (go_simp; done) | (go_simp; rfl)); intro gb212 hg w16 hbox hb; have BK212 := Aside0.mk (hbox); have GW212 := Aside0.mk ((by rw [hg]; exact (below_size (bq2_ HB.out GE206.out GE210.out)) : w.heap.size ≤ gb212)); have GE212 := Aside0.mk ((by rw [hg]; exact (below_size (bq2_ HB.out GE206.out GE210.out)) : w.heap.size ≤ gb212)); have NB206_212 := Aside0.mk ((by rw [hg]; exact Nat.ne_of_lt (blk_lt (g := gb206) (o := .cells #[.slice none 0 0, .int .i64 x207001_1, .slice none 0 0] 25 (0, 0)) (mvK_ BK206.out)) : gb206 ≠ gb212)); have NB212_206 := Aside0.mk ((by rw [hg]; exact Nat.ne_of_gt (blk_lt (g := gb206) (o := .cells #[.slice none 0 0, .int .i64 x207001_1, .slice none 0 0] 25 (0, 0)) (mvK_ BK206.out)) : gb212 ≠ gb206)); have NB210_212 := Aside0.mk ((by rw [hg]; exact Nat.ne_of_lt (blk_lt (g := gb210) (o := .cells #[u211000, .int .i64 0, .slice none 0 0] 25 (0, 0)) (mvK_ BK210.out)) : gb210 ≠ gb212)); have NB212_210 := Aside0.mk ((by rw [hg]; exact Nat.ne_of_gt (blk_lt (g := gb210) (o := .cells #[u211000, .int .i64 0, .slice none 0 0] 25 (0, 0)) (mvK_ BK210.out)) : gb212 ≠ gb210)); replace HO_211000 := Aside0.mk (Kd.N_below (Kd.N_elderB (mvN_ HO_211000.out) gb212 (Nat.le_of_eq hg.symm)) hb); replace BK206 := Aside0.mk (blk_below (g := gb206) (o := .cells #[.slice none 0 0, .int .i64 x207001_1, .slice none 0 0] 25 (0, 0)) (mvK_ BK206.out) hb); replace BK210 := Aside0.mk (blk_below (g := gb210) (o := .cells #[u211000, .int .i64 0, .slice none 0 0] 25 (0, 0)) (mvK_ BK210.out) hb); replace HB := Aside0.mk (below_step (bq2_ HB.out GE206.out GE210.out) hb); clear hb hbox hg; have hnb17 := NB212_206.out; have hnc17 := NB206_212.out; have hnb18 := NB212_210.out; have hnc18 := NB210_212.out; have hcz19_0 := hc_ BK212 0; have hcz19_1 := hc_ BK212 1; have hfz19_0 := blk_frozen BK212.out 0; have hfz19_1 := blk_frozen BK212.out 1))
        go_roundg k1
        case measure => have := HK1.out; omega
        case rel => exact ⟨(wrap64 (x15_1 + 1)), (x207001_1), (x211000_1), (u211000), (by first | rfl | (simp; done) | (simp [*]; done)), H', ⟨by have := HK1.out; omega⟩, ⟨by (with_reducible repeat (first | apply Kd.N_alloc | apply Kd.N_drewN | apply Kd.N_drew)); exact Kd.N_mono (Kd.N_far (p := ⟨gb212, 1, none⟩) (Kd.N_far (p := ⟨gb212, 0, none⟩) (Kd.N_mono HO_211000.out (fun k_ hk => (⟨hk, hk.2⟩ : _ ∧ k_ ≠ gb212))) (fun _ hk => hk.2) (.slice A211_0 ((rd_T37 l0 x15_1).f0).length c211_0)) (fun _ hk => hk.2) (.slice A211_1 ((rd_T37 l0 x15_1).f1).length c211_1)) (fun _ hk => ⟨hk.1.1.1, ⟨hk.1.1.2.1, hk.1.1.2.2⟩⟩)⟩, ⟨by (with_reducible repeat (first | refine blk_drewN ?_ _ | refine blk_drew ?_ | refine blk_alloc ?_ _)); refine blk_far ?_ NB206_212.out _; (with_reducible repeat (first | refine blk_drewN ?_ _ | refine blk_drew ?_ | refine blk_alloc ?_ _)); refine blk_far ?_ NB206_212.out _; (with_reducible repeat (first | refine blk_drewN ?_ _ | refine blk_drew ?_ | refine blk_alloc ?_ _)); exact BK206.out⟩, ⟨by (with_reducible repeat (first | refine blk_drewN ?_ _ | refine blk_drew ?_ | refine blk_alloc ?_ _)); refine blk_far ?_ NB210_212.out _; (with_reducible repeat (first | refine blk_drewN ?_ _ | refine blk_drew ?_ | refine blk_alloc ?_ _)); refine blk_far ?_ NB210_212.out _; (with_reducible repeat (first | refine blk_drewN ?_ _ | refine blk_drew ?_ | refine blk_alloc ?_ _)); exact BK210.out⟩, ⟨bq3_ HB.out GE206.out GE210.out GE212.out⟩⟩
       ·rw [if_neg c15] at H
        have c15b0 : ((wrap64 ((((rd_T37 l0 x15_1).f0).length : Int) + (((rd_T37 l0 x15_1).f1).length : Int))) == 0) = false := beq_eq_false_iff_ne.mpr c15
        have c15b1 : ((wrap64 ((((rd_T37 l0 x15_1).f0).length : Int) + (((rd_T37 l0 x15_1).f1).length : Int))) != 0) = true := bne_iff_ne.mpr c15
        replace H := Option.bind_eq_some_iff.mp H
        obtain ⟨t213, A200, H⟩ := H
        replace H : (if t213 = true then ((chain_Put.f k1 ([] : List (S74)) 0 ((rd_T37 l0 x15_1).f0) ((rd_T37 l0 x15_1).f1)).bind fun bt214 => (if x15_1 < (x211000_1.length : Int) then (store_New.l0 k1 l0 (l0.length : Int) (wrap64 (x15_1 + 1)) (x211000_1.set (x15_1 : Int).toNat bt214.1) 0) else (none))) else (some (([] : List (List (S74))), 0, ([] : List Int), 30))) = some (r1, r2, r3, r4) := H
        have A20 := Aside0.mk A200
        clear A200
        by_cases c21 : t213 = true
        ·subst c21
         have H1 : ((chain_Put.f k1 ([] : List (S74)) 0 ((rd_T37 l0 x15_1).f0) ((rd_T37 l0 x15_1).f1)).bind fun bt214 => (if x15_1 < (x211000_1.length : Int) then (store_New.l0 k1 l0 (l0.length : Int) (wrap64 (x15_1 + 1)) (x211000_1.set (x15_1 : Int).toNat bt214.1) 0) else (none))) = some (r1, r2, r3, r4) := by rw [if_pos rfl] at H; exact H
         clear H
         have H := H1
         clear H1
         replace H := Option.bind_eq_some_iff.mp H
         obtain ⟨⟨t214, t217⟩, A220, H⟩ := H
         replace H : (if x15_1 < (x211000_1.length : Int) then (store_New.l0 k1 l0 (l0.length : Int) (wrap64 (x15_1 + 1)) (x211000_1.set (x15_1 : Int).toNat t214) 0) else (none)) = some (r1, r2, r3, r4) := H
         have A22 := Aside0.mk A220
         clear A220
         by_cases c23 : x15_1 < (x211000_1.length : Int)
         ·rw [if_pos c23] at H
          have c23b0 : decide (x15_1 < (x211000_1.length : Int)) = true := decide_eq_true c23
          clear c23
          obtain ⟨y218, hy218⟩ : ∃ y_ : List (List (S74)), y_ = (x211000_1.set (x15_1 : Int).toNat t214) := ⟨_, rfl⟩
          replace H : (store_New.l0 k1 l0 (l0.length : Int) (wrap64 (x15_1 + 1)) y218 0) = some (r1, r2, r3, r4) := by first | (rw [hy218]; with_reducible exact H) | (have H2_ := (Option.bind_some _ _).symm.trans H; rw [hy218]; with_reducible exact H2_) | (have H2_ := (Option.bind_some _ _).symm.trans H; with_reducible exact H2_) | with_reducible exact H | (rw [hy218]; exact H) | exact H
          have Ny218 := Aside0.mk hy218
          clear hy218
          have H' := Aside0.mk H
          clear H
          have p211 : 0 ≤ (x15_1 : Int) := od_
          have q211 : x15_1 < (l0.length : Int) := od_
          obtain ⟨ad211, A211_0, c211_0, A211_1, c211_1, e211, hx211_0, hx211_1, hl211_0, hi211_0, hl211_1, hi211_1⟩ := at_T37 HR0.out x15_1 p211 q211
          cases e211
          replace hx211_0 := hb_ HB hx211_0
          replace hx211_1 := hb_ HB hx211_1
          have HR211_0 := Aside0.mk hi211_0
          have HC211_0 := Aside0.mk hl211_0
          clear hi211_0 hl211_0
          have HR211_1 := Aside0.mk hi211_1
          have HC211_1 := Aside0.mk hl211_1
          clear hi211_1 hl211_1
          replace p211 := eq_true p211
          replace q211 := eq_true q211
          try go_wp2_with (first | ((with_reducible refine gate_dst (N := 6) rfl ?_); refine box_event ?hg (N := 6) ?hd (cs := #[.slice none 0 0, .slice none 0 0]) (t := 37) ?hr ?_; (case hd => rfl); (case hg => rfl); (case hr => first | (go_simp; done) | (go_simp; rfl)); intro gb212 hg w25 hbox hb; have BK212 := Aside0.mk (hbox); have GW212 := Aside0.mk ((by rw [hg]; exact (below_size (bq2_ HB.out GE206.out GE210.out)) : w.heap.size ≤ gb212)); have GE212 := Aside0.mk ((by rw [hg]; exact (below_size (bq2_ HB.out GE206.out GE210.out)) : w.heap.size ≤ gb212)); have NB206_212 := Aside0.mk ((by rw [hg]; exact Nat.ne_of_lt (blk_lt (g := gb206) (o := .cells #[.slice none 0 0, .int .i64 x207001_1, .slice none 0 0] 25 (0, 0)) (mvK_ BK206.out)) : gb206 ≠ gb212)); have NB212_206 := Aside0.mk ((by rw [hg]; exact Nat.ne_of_gt (blk_lt (g := gb206) (o := .cells #[.slice none 0 0, .int .i64 x207001_1, .slice none 0 0] 25 (0, 0)) (mvK_ BK206.out)) : gb212 ≠ gb206)); have NB210_212 := Aside0.mk ((by rw [hg]; exact Nat.ne_of_lt (blk_lt (g := gb210) (o := .cells #[u211000, .int .i64 0, .slice none 0 0] 25 (0, 0)) (mvK_ BK210.out)) : gb210 ≠ gb212)); have NB212_210 := Aside0.mk ((by rw [hg]; exact Nat.ne_of_gt (blk_lt (g := gb210) (o := .cells #[u211000, .int .i64 0, .slice none 0 0] 25 (0, 0)) (mvK_ BK210.out)) : gb212 ≠ gb210)); replace HO_211000 := Aside0.mk (Kd.N_below (Kd.N_elderB (mvN_ HO_211000.out) gb212 (Nat.le_of_eq hg.symm)) hb); replace BK206 := Aside0.mk (blk_below (g := gb206) (o := .cells #[.slice none 0 0, .int .i64 x207001_1, .slice none 0 0] 25 (0, 0)) (mvK_ BK206.out) hb); replace BK210 := Aside0.mk (blk_below (g := gb210) (o := .cells #[u211000, .int .i64 0, .slice none 0 0] 25 (0, 0)) (mvK_ BK210.out) hb); replace HB := Aside0.mk (below_step (bq2_ HB.out GE206.out GE210.out) hb); clear hb hbox hg; have hnb26 := NB212_206.out; have hnc26 := NB206_212.out; have hnb27 := NB212_210.out; have hnc27 := NB210_212.out; have hcz28_0 := hc_ BK212 0; have hcz28_1 := hc_ BK212 1; have hfz28_0 := blk_frozen BK212.out 0; have hfz28_1 := blk_frozen BK212.out 1) | ((with_reducible refine gate_callee (f := 40) rfl ?_); refine gL_ (some 29) Try.func40 #[.agg #[.slice A211_0 ((rd_T37 l0 x15_1).f0).length c211_0, .slice A211_1 ((rd_T37 l0 x15_1).f1).length c211_1]] ?_; (with_reducible refine (tensor_Check.calls k1 _ _ ((rd_T37 l0 x15_1).f0) _ _ ((rd_T37 l0 x15_1).f1) true _ ?side1 ?side2 ?side3 ?side4 A20.out).mono ?_); (case side1 => exact Kd.C_below HR211_0.out (bq3_ HB.out GE206.out GE210.out GE212.out)); (case side2 => exact HC211_0.out); (case side3 => exact Kd.C_below HR211_1.out (bq3_ HB.out GE206.out GE210.out GE212.out)); (case side4 => exact HC211_1.out); rintro e w29 ⟨rfl, hb⟩; refine ⟨_, rfl, ?_⟩; replace HO_211000 := Aside0.mk (Kd.N_below (by (with_reducible repeat (first | apply Kd.N_alloc | apply Kd.N_drewN | apply Kd.N_drew)); exact (Kd.N_mono (Kd.N_far (p := ⟨gb212, 1, none⟩) (Kd.N_far (p := ⟨gb212, 0, none⟩) (Kd.N_mono HO_211000.out (fun k_ hk => (⟨hk, hk.2⟩ : _ ∧ k_ ≠ gb212))) (fun _ hk => hk.2) (.slice A211_0 ((rd_T37 l0 x15_1).f0).length c211_0)) (fun _ hk => hk.2) (.slice A211_1 ((rd_T37 l0 x15_1).f1).length c211_1)) (fun _ h_ => h_.1))) hb); replace BK206 := Aside0.mk (blk_below (g := gb206) (o := .cells #[.slice none 0 0, .int .i64 x207001_1, .slice none 0 0] 25 (0, 0)) (by (with_reducible repeat (first | refine blk_drewN ?_ _ | refine blk_drew ?_ | refine blk_alloc ?_ _)); refine blk_far ?_ NB206_212.out _; (with_reducible repeat (first | refine blk_drewN ?_ _ | refine blk_drew ?_ | refine blk_alloc ?_ _)); refine blk_far ?_ NB206_212.out _; (with_reducible repeat (first | refine blk_drewN ?_ _ | refine blk_drew ?_ | refine blk_alloc ?_ _)); exact BK206.out) hb); replace BK210 := Aside0.mk (blk_below (g := gb210) (o := .cells #[u211000, .int .i64 0, .slice none 0 0] 25 (0, 0)) (by (with_reducible repeat (first | refine blk_drewN ?_ _ | refine blk_drew ?_ | refine blk_alloc ?_ _)); refine blk_far ?_ NB210_212.out _; (with_reducible repeat (first | refine blk_drewN ?_ _ | refine blk_drew ?_ | refine blk_alloc ?_ _)); refine blk_far ?_ NB210_212.out _; (with_reducible repeat (first | refine blk_drewN ?_ _ | refine blk_drew ?_ | refine blk_alloc ?_ _)); exact BK210.out) hb); replace BK212 := Aside0.mk (blk_below (g := gb212) (o := .cells #[.slice A211_0 ((rd_T37 l0 x15_1).f0).length c211_0, .slice A211_1 ((rd_T37 l0 x15_1).f1).length c211_1] 37 (0, 0)) (by (with_reducible repeat (first | refine blk_drewN ?_ _ | refine blk_drew ?_ | refine blk_alloc ?_ _)); refine blk_put (cs := #[.slice A211_0 ((rd_T37 l0 x15_1).f0).length c211_0, .slice none 0 0]) ?_ 1 _ rfl; (with_reducible repeat (first | refine blk_drewN ?_ _ | refine blk_drew ?_ | refine blk_alloc ?_ _)); refine blk_put (cs := #[.slice none 0 0, .slice none 0 0]) ?_ 0 _ rfl; (with_reducible repeat (first | refine blk_drewN ?_ _ | refine blk_drew ?_ | refine blk_alloc ?_ _)); exact BK212.out) hb); replace HB := Aside0.mk (below_step (bq3_ HB.out GE206.out GE210.out GE212.out) hb); (try clear hb)))
          replace HO_211000 := Aside0.mk (Kd.N_drew HO_211000.out)
          replace BK206 := Aside0.mk (blk_drew BK206.out)
          replace BK210 := Aside0.mk (blk_drew BK210.out)
          replace BK212 := Aside0.mk (blk_drew BK212.out)
          replace HB := Aside0.mk (below_drew1 HB.out)
          refine start_ (n := 10) (S := fun w' => w'.cell? ⟨gb210, 0, none⟩ = some (u211000) ∧ w'.cell? ⟨gb210, 1, none⟩ = some (.int .i64 0) ∧ w'.cell? ⟨gb210, 2, none⟩ = some (.slice none 0 0) ∧ w'.cell? ⟨gb212, 0, none⟩ = some (.slice A211_0 ((rd_T37 l0 x15_1).f0).length c211_0) ∧ w'.cell? ⟨gb212, 1, none⟩ = some (.slice A211_1 ((rd_T37 l0 x15_1).f1).length c211_1)) (ds := [9]) L19_0 (by kernel_rfl) rfl rfl ⟨(blk_cell BK210.out 0).trans rfl, (blk_cell BK210.out 1).trans rfl, (blk_cell BK210.out 2).trans rfl, (blk_cell BK212.out 0).trans rfl, (blk_cell BK212.out 1).trans rfl⟩ (fun hHeld => ?_); refine with_tabW store_New.tab10 store_New.bits10 (fun HT_ HW_ => ?_)
          generalize w29.drew = w30 at HO_211000 BK206 BK210 BK212 HB hHeld ⊢
          refine pu_ 0 (some 33) L19_1 HT_ ?_
          refine pu_ 2 (some 35) L19_2 HT_ ?_
          refine ta_ 1 (some 34) L19_3 HT_ HW_ hHeld ?_ (hy := by rintro w' ⟨s0, s1, s2, s3, s4⟩; go_simp; with_reducible rfl)
          refine ta_ 3 (some 36) L19_4 HT_ HW_ hHeld ?_ (hy := by rintro w' ⟨s0, s1, s2, s3, s4⟩; go_simp; with_reducible rfl)
          refine one_ (i := 4) (N := some 37) L19_5 rfl rfl (one_of HT_.out (by kernel_rfl)) (by decide) (fun K hK => ?_)
          refine goes_ Try.func34 (by kernel_rfl) rfl #[.slice none 0 0, .int .i64 0, .agg #[.slice A211_0 ((rd_T37 l0 x15_1).f0).length c211_0, .slice A211_1 ((rd_T37 l0 x15_1).f1).length c211_1]] (by rfl) rfl rfl (by (try simp only [List.map_toArray, List.map_cons, List.map_nil]); first | done | rfl | (simp only [List.length_drop, List.length_take]; rfl)) ?_
          refine (chain_Put.calls k1 (fun k_ => False) _ _ ([] : List (S74)) 0 _ _ ((rd_T37 l0 x15_1).f0) _ _ ((rd_T37 l0 x15_1).f1) t214 t217 _ ?side1 ?side2 ?side3 ?side4 ?side5 A22.out).mono ?_
          (case side1 => exact Kd.V_nil _ _ _ _ _)
          (case side2 => exact mvC_ ((Kd.C_below HR211_0.out HB.out)))
          (case side3 => exact HC211_0.out)
          (case side4 => exact mvC_ ((Kd.C_below HR211_1.out HB.out)))
          (case side5 => exact HC211_1.out)
          rintro e w31 ⟨v215, rfl, ho0, hb⟩
          refine ⟨_, rfl, ?_⟩
          have HO216 := Aside0.mk (Kd.V_lower (Kd.V_mono (ok' := fun k_ => (w.heap.size ≤ k_) ∧ some k_ ≠ (u211000 : Value).ownBlock ∧ k_ ≠ gb206 ∧ k_ ≠ gb210 ∧ k_ ≠ gb212) ho0 (fun k_ hk_ => ⟨Or.elim hk_ (fun hs_ => (hs_).elim) (fun hn_ => (Nat.le_trans (below_size (bq3_ HB.out GE206.out GE210.out GE212.out)) hn_)), Or.elim hk_ (fun hs_ => (hs_).elim) (fun hn_ => (Kd.fresh' (Kd.N_lt (mvN_ HO_211000.out)) k_ hn_)), Or.elim hk_ (fun hs_ => (hs_).elim) (fun hn_ => (Kd.freshB (g := gb206) (o := .cells #[.slice none 0 0, .int .i64 x207001_1, .slice none 0 0] 25 (0, 0)) (mvK_ BK206.out) k_ hn_)), Or.elim hk_ (fun hs_ => (hs_).elim) (fun hn_ => (Kd.freshB (g := gb210) (o := .cells #[u211000, .int .i64 0, .slice none 0 0] 25 (0, 0)) (mvK_ BK210.out) k_ hn_)), Or.elim hk_ (fun hs_ => (hs_).elim) (fun hn_ => (Kd.freshB (g := gb212) (o := .cells #[.slice A211_0 ((rd_T37 l0 x15_1).f0).length c211_0, .slice A211_1 ((rd_T37 l0 x15_1).f1).length c211_1] 37 (0, 0)) (mvK_ BK212.out) k_ hn_))⟩)) (below_size (bq3_ HB.out GE206.out GE210.out GE212.out)))
          replace HO_211000 := Aside0.mk (Kd.N_below (mvN_ HO_211000.out) hb)
          replace BK206 := Aside0.mk (blk_below (g := gb206) (o := .cells #[.slice none 0 0, .int .i64 x207001_1, .slice none 0 0] 25 (0, 0)) (mvK_ BK206.out) hb)
          replace BK210 := Aside0.mk (blk_below (g := gb210) (o := .cells #[u211000, .int .i64 0, .slice none 0 0] 25 (0, 0)) (mvK_ BK210.out) hb)
          replace BK212 := Aside0.mk (blk_below (g := gb212) (o := .cells #[.slice A211_0 ((rd_T37 l0 x15_1).f0).length c211_0, .slice A211_1 ((rd_T37 l0 x15_1).f1).length c211_1] 37 (0, 0)) (mvK_ BK212.out) hb)
          replace HB := Aside0.mk (below_step (bq3_ HB.out GE206.out GE210.out GE212.out) hb)
          (try clear hb)
          (try clear hb2)
          (try clear hk)
          (try clear hi)
          (try clear ho0)
          have p24 : 0 ≤ (x15_1 : Int) := od_
          have q24 : (x15_1 : Int) < ((x211000_1.length : Int) : Int) := od_
          obtain ⟨go24, co24, eo24, gb24, gl24, cl24, HG24⟩ := Kd.N_form HO_211000.out (by omega)
          (first | cases eo24 | (injection eo24 with ea_ en_ ec_; (first | subst ea_ | (injection ea_ with ea_; subst ea_)); subst ec_; clear en_))
          have GB24 := Aside0.mk gb24
          have GG24 := Aside0.mk HG24
          clear gb24 gl24 HG24
          obtain ⟨ce24, hcl24, hM24, hcc24, hfr24⟩ := Kd.N_elem HO_211000.out [] (x15_1 : Int) p24 q24
          obtain ⟨ua24_0, uc24_0, rfl, ul24_0, ge24_0⟩ := Kd.FK_slice_open hM24
          have hx24_0 := hcc24 0 _ rfl
          have hf24_0 := hfr24 0
          (try simp only [show ((Kd.slice 74 k74)).sz = 1 from rfl, Nat.mul_one, Nat.add_zero] at hx24_0)
          (try simp only [show ((Kd.slice 74 k74)).sz = 1 from rfl, Nat.mul_one, Nat.add_zero] at hf24_0)
          clear hcl24 hcc24 hfr24 hM24
          replace p24 := eq_true p24
          replace q24 := eq_true q24
          have HX32 := Aside0.mk (show Kd.N (Kd.slice 74 k74) 54 _ w.heap.size (fun k_ => (w.heap.size ≤ k_) ∧ k_ ≠ gb206 ∧ k_ ≠ gb210 ∧ k_ ≠ gb212) (.slice (some ⟨go24, 0, none⟩) x211000_1.length co24) x211000_1 from (Kd.N_mono (HO_211000.out) (fun k_ hk => ⟨hk.1.1, ⟨hk.1.2.1, ⟨hk.1.2.2, hk.2⟩⟩⟩)))
          obtain ⟨ce32, hcl32, hM32, hcc32, hfr32⟩ := Kd.N_elem HX32.out [] (x15_1 : Int) od_ (by have h_ : (x15_1 : Int) < ((x211000_1.length : Int) : Int) := od_; first | exact h_ | (have e_ := (Kd.N_reads' HO_211000.out).1; omega) | simpa using h_)
          obtain ⟨ua32_0, uc32_0, rfl, ul32_0, ge32_0⟩ := Kd.FK_slice_open hM32
          obtain ⟨AoS215, coS215, eoS215⟩ := Kd.V_slice HO216.out; subst eoS215
          have HP32 := (Kd.N_seg HX32.out (x15_1 : Int) od_ (by have h_ : (x15_1 : Int) < ((x211000_1.length : Int) : Int) := od_; first | exact h_ | (have e_ := (Kd.N_reads' HO_211000.out).1; omega) | simpa using h_) (seg := [.slice AoS215 t214.length coS215]) (j := 0) hcl32 hcc32 (show 1 ≤ 1 from by decide) (x' := t214) (fkV_ (Kd.V_mono (ok' := (fun k_ => ((fun k_ => (w.heap.size ≤ k_) ∧ k_ ≠ gb206 ∧ k_ ≠ gb210 ∧ k_ ≠ gb212)) k_ ∧ k_ ≠ go24)) (HO216.out) (fun k_ hk => ⟨⟨hk.1, ⟨hk.2.2.1, ⟨hk.2.2.2.1, hk.2.2.2.2⟩⟩⟩, fun e_ => (hk.2.1) (by rw [e_]; rfl)⟩))) (fun _ hk => hk)).1
          (try simp only [show ((Kd.slice 74 k74)).sz = 1 from rfl, Nat.mul_one, Nat.add_zero] at HP32)
          rw [← Ny218.out] at HP32
          have HQ32 := Aside0.mk HP32
          clear hcl32 hcc32 hfr32 hM32 HP32
          refine hK.out _ _ ⟨(blk_cell BK210.out 0).trans rfl, (blk_cell BK210.out 1).trans rfl, (blk_cell BK210.out 2).trans rfl, (blk_cell BK212.out 0).trans rfl, (blk_cell BK212.out 1).trans rfl⟩ (fun hHeld => ?_)
          clear hK K
          refine norm_ (a' := ?_) ?_ ?_
          rotate_left
          ·show Act.put _ (some 37) _ = _
           simp only [Act.put, sA_, sB_, sC_, i64_w, i32_w]
           rfl
          refine pu_ 5 (some 32) L19_6 HT_ ?_
          refine pu_ 6 (some 38) L19_7 HT_ ?_
          refine pu_ 7 (some 39) L19_8 HT_ ?_
          refine pu_ 8 (some 40) L19_9 HT_ ?_
          refine last_ (i := 9) (N := none) L19_10 rfl rfl (one_of HT_.out (by kernel_rfl)) (by decide) (fun K hK => ?_)
          refine skip_ (w1 := ?_) (by rfl) rfl ?_ ?_
          rotate_left
          ·go_simp
           rfl
          refine hK.out _ _ ?_
          clear hK K
          refine done_ (done_of HT_.out (by kernel_rfl)) ?_
          try go_wp2
          go_roundg k1
          case measure => have := HK1.out; omega
          case rel => exact ⟨(wrap64 (x15_1 + 1)), (x207001_1), (y218), (.slice (some ⟨go24, 0, none⟩) x211000_1.length co24), (by first | rfl | (simp; done) | (simp [*]; done)), H', ⟨by have := HK1.out; omega⟩, ⟨by (with_reducible repeat (first | apply Kd.N_alloc | apply Kd.N_drewN | apply Kd.N_drew)); exact Kd.N_mono HQ32.out (fun _ hk => ⟨hk.1, ⟨hk.2.1, hk.2.2.1⟩⟩)⟩, ⟨by (with_reducible repeat (first | refine blk_drewN ?_ _ | refine blk_drew ?_ | refine blk_alloc ?_ _)); refine blk_far ?_ (by have h_ := Kd.N_away HO_211000.out (fun _ hk => hk.1.2.1); intro e_; exact h_ (by rw [e_]; rfl)) _; (with_reducible repeat (first | refine blk_drewN ?_ _ | refine blk_drew ?_ | refine blk_alloc ?_ _)); exact BK206.out⟩, ⟨by (with_reducible repeat (first | refine blk_drewN ?_ _ | refine blk_drew ?_ | refine blk_alloc ?_ _)); refine blk_far ?_ (by have h_ := Kd.N_away HO_211000.out (fun _ hk => hk.1.2.2); intro e_; exact h_ (by rw [e_]; rfl)) _; (with_reducible repeat (first | refine blk_drewN ?_ _ | refine blk_drew ?_ | refine blk_alloc ?_ _)); exact BK210.out⟩, ⟨bq4_ HB.out GB24.out GE206.out GE210.out GE212.out⟩⟩
         ·rw [if_neg c23] at H
          exact absurd H (by simp)
        ·replace c21 := Bool.eq_false_iff.mpr c21
         subst c21
         have H1 : (some (([] : List (List (S74))), 0, ([] : List Int), 30)) = some (r1, r2, r3, r4) := by rw [if_neg (show ¬ (false = true) by decide)] at H; exact H
         clear H
         have H := H1
         clear H1
         simp only [Option.some.injEq, Prod.mk.injEq] at H
         obtain ⟨rfl, rfl, rfl, rfl⟩ := H
         have p211 : 0 ≤ (x15_1 : Int) := od_
         have q211 : x15_1 < (l0.length : Int) := od_
         obtain ⟨ad211, A211_0, c211_0, A211_1, c211_1, e211, hx211_0, hx211_1, hl211_0, hi211_0, hl211_1, hi211_1⟩ := at_T37 HR0.out x15_1 p211 q211
         cases e211
         replace hx211_0 := hb_ HB hx211_0
         replace hx211_1 := hb_ HB hx211_1
         have HR211_0 := Aside0.mk hi211_0
         have HC211_0 := Aside0.mk hl211_0
         clear hi211_0 hl211_0
         have HR211_1 := Aside0.mk hi211_1
         have HC211_1 := Aside0.mk hl211_1
         clear hi211_1 hl211_1
         replace p211 := eq_true p211
         replace q211 := eq_true q211
         go_wp2_with (first | ((with_reducible refine gate_dst (N := 6) rfl ?_); refine box_event ?hg (N := 6) ?hd (cs := #[.slice none 0 0, .slice none 0 0]) (t := 37) ?hr ?_; (case hd => rfl); (case hg => rfl); (case hr => first | (go_simp; done) | (go_simp; rfl)); intro gb212 hg w33 hbox hb; have BK212 := Aside0.mk (hbox); have GW212 := Aside0.mk ((by rw [hg]; exact (below_size (bq2_ HB.out GE206.out GE210.out)) : w.heap.size ≤ gb212)); have GE212 := Aside0.mk ((by rw [hg]; exact (below_size (bq2_ HB.out GE206.out GE210.out)) : w.heap.size ≤ gb212)); have NB206_212 := Aside0.mk ((by rw [hg]; exact Nat.ne_of_lt (blk_lt (g := gb206) (o := .cells #[.slice none 0 0, .int .i64 x207001_1, .slice none 0 0] 25 (0, 0)) (mvK_ BK206.out)) : gb206 ≠ gb212)); have NB212_206 := Aside0.mk ((by rw [hg]; exact Nat.ne_of_gt (blk_lt (g := gb206) (o := .cells #[.slice none 0 0, .int .i64 x207001_1, .slice none 0 0] 25 (0, 0)) (mvK_ BK206.out)) : gb212 ≠ gb206)); have NB210_212 := Aside0.mk ((by rw [hg]; exact Nat.ne_of_lt (blk_lt (g := gb210) (o := .cells #[u211000, .int .i64 0, .slice none 0 0] 25 (0, 0)) (mvK_ BK210.out)) : gb210 ≠ gb212)); have NB212_210 := Aside0.mk ((by rw [hg]; exact Nat.ne_of_gt (blk_lt (g := gb210) (o := .cells #[u211000, .int .i64 0, .slice none 0 0] 25 (0, 0)) (mvK_ BK210.out)) : gb212 ≠ gb210)); replace HO_211000 := Aside0.mk (Kd.N_below (Kd.N_elderB (mvN_ HO_211000.out) gb212 (Nat.le_of_eq hg.symm)) hb); replace BK206 := Aside0.mk (blk_below (g := gb206) (o := .cells #[.slice none 0 0, .int .i64 x207001_1, .slice none 0 0] 25 (0, 0)) (mvK_ BK206.out) hb); replace BK210 := Aside0.mk (blk_below (g := gb210) (o := .cells #[u211000, .int .i64 0, .slice none 0 0] 25 (0, 0)) (mvK_ BK210.out) hb); replace HB := Aside0.mk (below_step (bq2_ HB.out GE206.out GE210.out) hb); clear hb hbox hg; have hnb34 := NB212_206.out; have hnc34 := NB206_212.out; have hnb35 := NB212_210.out; have hnc35 := NB210_212.out; have hcz36_0 := hc_ BK212 0; have hcz36_1 := hc_ BK212 1; have hfz36_0 := blk_frozen BK212.out 0; have hfz36_1 := blk_frozen BK212.out 1) | ((with_reducible refine gate_callee (f := 40) rfl ?_); refine gL_ (some 29) Try.func40 #[.agg #[.slice A211_0 ((rd_T37 l0 x15_1).f0).length c211_0, .slice A211_1 ((rd_T37 l0 x15_1).f1).length c211_1]] ?_; (with_reducible refine (tensor_Check.calls k1 _ _ ((rd_T37 l0 x15_1).f0) _ _ ((rd_T37 l0 x15_1).f1) false _ ?side1 ?side2 ?side3 ?side4 A20.out).mono ?_); (case side1 => exact Kd.C_below HR211_0.out (bq3_ HB.out GE206.out GE210.out GE212.out)); (case side2 => exact HC211_0.out); (case side3 => exact Kd.C_below HR211_1.out (bq3_ HB.out GE206.out GE210.out GE212.out)); (case side4 => exact HC211_1.out); rintro e w37 ⟨rfl, hb⟩; refine ⟨_, rfl, ?_⟩; replace HO_211000 := Aside0.mk (Kd.N_below (by (with_reducible repeat (first | apply Kd.N_alloc | apply Kd.N_drewN | apply Kd.N_drew)); exact (Kd.N_mono (Kd.N_far (p := ⟨gb212, 1, none⟩) (Kd.N_far (p := ⟨gb212, 0, none⟩) (Kd.N_mono HO_211000.out (fun k_ hk => (⟨hk, hk.2⟩ : _ ∧ k_ ≠ gb212))) (fun _ hk => hk.2) (.slice A211_0 ((rd_T37 l0 x15_1).f0).length c211_0)) (fun _ hk => hk.2) (.slice A211_1 ((rd_T37 l0 x15_1).f1).length c211_1)) (fun _ h_ => h_.1))) hb); replace BK206 := Aside0.mk (blk_below (g := gb206) (o := .cells #[.slice none 0 0, .int .i64 x207001_1, .slice none 0 0] 25 (0, 0)) (by (with_reducible repeat (first | refine blk_drewN ?_ _ | refine blk_drew ?_ | refine blk_alloc ?_ _)); refine blk_far ?_ NB206_212.out _; (with_reducible repeat (first | refine blk_drewN ?_ _ | refine blk_drew ?_ | refine blk_alloc ?_ _)); refine blk_far ?_ NB206_212.out _; (with_reducible repeat (first | refine blk_drewN ?_ _ | refine blk_drew ?_ | refine blk_alloc ?_ _)); exact BK206.out) hb); replace BK210 := Aside0.mk (blk_below (g := gb210) (o := .cells #[u211000, .int .i64 0, .slice none 0 0] 25 (0, 0)) (by (with_reducible repeat (first | refine blk_drewN ?_ _ | refine blk_drew ?_ | refine blk_alloc ?_ _)); refine blk_far ?_ NB210_212.out _; (with_reducible repeat (first | refine blk_drewN ?_ _ | refine blk_drew ?_ | refine blk_alloc ?_ _)); refine blk_far ?_ NB210_212.out _; (with_reducible repeat (first | refine blk_drewN ?_ _ | refine blk_drew ?_ | refine blk_alloc ?_ _)); exact BK210.out) hb); replace BK212 := Aside0.mk (blk_below (g := gb212) (o := .cells #[.slice A211_0 ((rd_T37 l0 x15_1).f0).length c211_0, .slice A211_1 ((rd_T37 l0 x15_1).f1).length c211_1] 37 (0, 0)) (by (with_reducible repeat (first | refine blk_drewN ?_ _ | refine blk_drew ?_ | refine blk_alloc ?_ _)); refine blk_put (cs := #[.slice A211_0 ((rd_T37 l0 x15_1).f0).length c211_0, .slice none 0 0]) ?_ 1 _ rfl; (with_reducible repeat (first | refine blk_drewN ?_ _ | refine blk_drew ?_ | refine blk_alloc ?_ _)); refine blk_put (cs := #[.slice none 0 0, .slice none 0 0]) ?_ 0 _ rfl; (with_reducible repeat (first | refine blk_drewN ?_ _ | refine blk_drew ?_ | refine blk_alloc ?_ _)); exact BK212.out) hb); replace HB := Aside0.mk (below_step (bq3_ HB.out GE206.out GE210.out GE212.out) hb); (try clear hb); have hnb38 := NB206_210.out; have hnc38 := NB210_206.out; have hcz39_0 := hc_ BK206 0; have hcz39_1 := hc_ BK206 1; have hcz39_2 := hc_ BK206 2; have hfz39_0 := blk_frozen BK206.out 0; have hfz39_1 := blk_frozen BK206.out 1; have hfz39_2 := blk_frozen BK206.out 2))
         refine bodyPost_ret (results_ct rfl _ _ gb206 25 #[.slice none 0 0, .int .i64 0, .slice none 0 0] (0, 0) _ rfl (by (with_reducible repeat (first | refine blk_drewN ?_ _ | refine blk_drew ?_ | refine blk_alloc ?_ _)); refine blk_put (cs := #[.slice none 0 0, .int .i64 0, .slice none 0 0]) ?_ 2 _ rfl; (with_reducible repeat (first | refine blk_drewN ?_ _ | refine blk_drew ?_ | refine blk_alloc ?_ _)); refine blk_put (cs := #[.slice none 0 0, .int .i64 x207001_1, .slice none 0 0]) ?_ 1 _ rfl; (with_reducible repeat (first | refine blk_drewN ?_ _ | refine blk_drew ?_ | refine blk_alloc ?_ _)); refine blk_put (cs := #[.slice none 0 0, .int .i64 x207001_1, .slice none 0 0]) ?_ 0 _ rfl; (with_reducible repeat (first | refine blk_drewN ?_ _ | refine blk_drew ?_ | refine blk_alloc ?_ _)); exact BK206.out) Try.underlying25 rfl (by kernel_rfl)) rfl ?_
         exact ⟨_, _, by first | rfl | (simp <;> rfl) | (simp [*] <;> rfl), by first | exact Kd.R_nil _ _ _ _ _ | exact Kd.N_nil _ _ _ _ _ | exact Kd.V_nil _ _ _ _ _ | exact Kd.Q_nil _ _ _ _ _ | exact Kd.S_nil _ _ _ _ _, by first | exact Kd.R_nil _ _ _ _ _ | exact Kd.N_nil _ _ _ _ _ | exact Kd.V_nil _ _ _ _ _ | exact Kd.Q_nil _ _ _ _ _ | exact Kd.S_nil _ _ _ _ _, bq3_ HB.out GE206.out GE210.out GE212.out⟩
      ·rw [if_neg c14] at H
       exact absurd H (by simp)
     ·rw [if_neg c13] at H
      exact absurd H (by simp)
    ·rw [if_neg c12] at H
     have c12b0 : decide (x15_1 < (l0.length : Int)) = false := decide_eq_false c12
     clear c12
     simp only [Option.some.injEq, Prod.mk.injEq] at H
     obtain ⟨rfl, rfl, rfl, rfl⟩ := H
     have hnb40 := NB210_206.out
     have hnc40 := NB206_210.out
     have hcz41_0 := hc_ BK210 0
     have hcz41_1 := hc_ BK210 1
     have hcz41_2 := hc_ BK210 2
     have hfz41_0 := blk_frozen BK210.out 0
     have hfz41_1 := blk_frozen BK210.out 1
     have hfz41_2 := blk_frozen BK210.out 2
     obtain ⟨Ao42, co42, eo42⟩ := Kd.N_slice HO_211000.out
     subst eo42
     have hcz43_0 := hc_ BK206 0
     have hcz43_1 := hc_ BK206 1
     have hcz43_2 := hc_ BK206 2
     have hfz43_0 := blk_frozen BK206.out 0
     have hfz43_1 := blk_frozen BK206.out 1
     have hfz43_2 := blk_frozen BK206.out 2
     go_wp2
     refine bodyPost_ret (results_ct rfl _ _ gb206 25 #[.slice Ao42 x211000_1.length co42, .int .i64 0, .slice none 0 0] (0, 0) _ rfl (by (with_reducible repeat (first | refine blk_drewN ?_ _ | refine blk_drew ?_ | refine blk_alloc ?_ _)); refine blk_put (cs := #[.slice Ao42 x211000_1.length co42, .int .i64 0, .slice none 0 0]) ?_ 2 _ rfl; (with_reducible repeat (first | refine blk_drewN ?_ _ | refine blk_drew ?_ | refine blk_alloc ?_ _)); refine blk_put (cs := #[.slice Ao42 x211000_1.length co42, .int .i64 x207001_1, .slice none 0 0]) ?_ 1 _ rfl; (with_reducible repeat (first | refine blk_drewN ?_ _ | refine blk_drew ?_ | refine blk_alloc ?_ _)); refine blk_put (cs := #[.slice none 0 0, .int .i64 x207001_1, .slice none 0 0]) ?_ 0 _ rfl; (with_reducible repeat (first | refine blk_drewN ?_ _ | refine blk_drew ?_ | refine blk_alloc ?_ _)); exact BK206.out) Try.underlying25 rfl (by kernel_rfl)) rfl ?_
     exact ⟨_, _, by first | rfl | (simp <;> rfl) | (simp [*] <;> rfl), by (with_reducible repeat (first | apply Kd.N_alloc | apply Kd.N_drewN | apply Kd.N_drew)); exact Kd.N_mono (Kd.N_far (p := ⟨gb206, 2, none⟩) (Kd.N_far (p := ⟨gb206, 1, none⟩) (Kd.N_far (p := ⟨gb206, 0, none⟩) (Kd.N_mono HO_211000.out (fun k_ hk => (⟨hk, hk.2.1⟩ : _ ∧ k_ ≠ gb206))) (fun _ hk => hk.2) (.slice Ao42 x211000_1.length co42)) (fun _ hk => hk.2) (.int .i64 0)) (fun _ hk => hk.2) (.slice none 0 0)) (fun _ hk => ⟨hk.1.1, (by simp [Value.ownBlock])⟩), by first | exact Kd.R_nil _ _ _ _ _ | exact Kd.N_nil _ _ _ _ _ | exact Kd.V_nil _ _ _ _ _ | exact Kd.Q_nil _ _ _ _ _ | exact Kd.S_nil _ _ _ _ _, bq2_ HB.out GE206.out GE210.out⟩
def chain_Trim.f (k : Nat) (l0 : List (S74)) (a1 : Int) : Option ((List (S74))) := (chain_Check.f k l0).bind fun t219 => (if t219 = true then ((chain_behind.f l0 a1).bind fun t220 => (if 0 ≤ (mx 0 (wrap64 (t220 - 1))) then (if (mx 0 (wrap64 (t220 - 1))) ≤ (l0.length : Int) then ((api_Version_49.f (l0.drop ((mx 0 (wrap64 (t220 - 1))) : Int).toNat)).bind fun t226 => (some t226)) else (none)) else (none))) else (some l0))
theorem chain_Trim.mono : ∀ a0 a1 k, LeO (chain_Trim.f k a0 a1) (chain_Trim.f (k + 1) a0 a1) := by
  intro a0 a1 k
  unfold chain_Trim.f
  repeat' first
   | (with_reducible first | exact chain_Check.mono _ _ | exact LeO.refl _ | exact LeO.none _ | refine LeO.ite ?_ ?_ | refine LeO.bind ?_ (fun _ => ?_))
   | first | exact chain_Check.mono _ _ | exact LeO.none _ | refine LeO.ite ?_ ?_ | refine LeO.bind ?_ (fun _ => ?_)
set_option maxHeartbeats 8000000 in
set_option maxRecDepth 100000 in
theorem chain_Trim.calls (k : Nat) (P0_ : Nat → Prop) (A0 : Option Addr) (c0 : Nat) (l0 : List (S74)) (a1 : Int) (r : List (S74)) (w : World) (hs0 : Kd.V k74 74 w w.heap.size (fun k_ => P0_ k_) (.slice A0 l0.length c0) l0) (h : chain_Trim.f k l0 a1 = some r) :
    Calls Try.prog 41 #[.slice A0 l0.length c0, .int .i64 a1] w fun e w' => ∃ v0_ : Value, e = .returned (v0_) ∧ Kd.V k74 74 w' w.heap.size (fun k_ => (P0_ k_ ∨ w.heap.size ≤ k_)) v0_ r ∧ Below w.heap.size w w' := by
  have HO0 := Aside0.mk (show Kd.V k74 74 w w.heap.size (fun k_ => (P0_ k_ ∨ w.heap.size ≤ k_)) (.slice A0 l0.length c0) l0 from Kd.V_mono hs0 (fun k_ hk => .inl hk))
  have HB := Aside0.mk (Below.refl w.heap.size w)
  have H : ((chain_Check.f k l0).bind fun t219 => (if t219 = true then ((chain_behind.f l0 a1).bind fun t220 => (if 0 ≤ (mx 0 (wrap64 (t220 - 1))) then (if (mx 0 (wrap64 (t220 - 1))) ≤ (l0.length : Int) then ((api_Version_49.f (l0.drop ((mx 0 (wrap64 (t220 - 1))) : Int).toNat)).bind fun t226 => (some t226)) else (none)) else (none))) else (some l0))) = some r := h
  clear h
  replace H := Option.bind_eq_some_iff.mp H
  obtain ⟨t219, A30, H⟩ := H
  replace H : (if t219 = true then ((chain_behind.f l0 a1).bind fun t220 => (if 0 ≤ (mx 0 (wrap64 (t220 - 1))) then (if (mx 0 (wrap64 (t220 - 1))) ≤ (l0.length : Int) then ((api_Version_49.f (l0.drop ((mx 0 (wrap64 (t220 - 1))) : Int).toNat)).bind fun t226 => (some t226)) else (none)) else (none))) else (some l0)) = some r := H
  have A3 := Aside0.mk A30
  clear A30
  by_cases c4 : t219 = true
  · subst c4
    have H1 : ((chain_behind.f l0 a1).bind fun t220 => (if 0 ≤ (mx 0 (wrap64 (t220 - 1))) then (if (mx 0 (wrap64 (t220 - 1))) ≤ (l0.length : Int) then ((api_Version_49.f (l0.drop ((mx 0 (wrap64 (t220 - 1))) : Int).toNat)).bind fun t226 => (some t226)) else (none)) else (none))) = some r := by rw [if_pos rfl] at H; exact H
    clear H
    have H := H1
    clear H1
    replace H := Option.bind_eq_some_iff.mp H
    obtain ⟨t220, A50, H⟩ := H
    replace H : (if 0 ≤ (mx 0 (wrap64 (t220 - 1))) then (if (mx 0 (wrap64 (t220 - 1))) ≤ (l0.length : Int) then ((api_Version_49.f (l0.drop ((mx 0 (wrap64 (t220 - 1))) : Int).toNat)).bind fun t226 => (some t226)) else (none)) else (none)) = some r := H
    have A5 := Aside0.mk A50
    clear A50
    obtain ⟨ji6, hji6⟩ : ∃ j_ : Int, (mx 0 (wrap64 (t220 - 1))) = j_ := ⟨_, rfl⟩
    replace H : (if 0 ≤ (ji6) then (if (ji6) ≤ (l0.length : Int) then ((api_Version_49.f (l0.drop ((ji6) : Int).toNat)).bind fun t226 => (some t226)) else (none)) else (none)) = some r := by first | (rw [hji6] at H; exact H) | (simp only [hji6] at H ⊢; exact H)
    (try rw [hji6] at A3)
    (try rw [hji6] at A5)
    (try (have hji6l : 0 ≤ ji6 := by (rw [← hji6]; unfold mx; (repeat' split) <;> omega)))
    (try (have hji6m : 0 ≤ ji6 := by omega))
    have hji6_ : (if 0 < (wrap64 (t220 - 1)) then (wrap64 (t220 - 1)) else 0) = ji6 := hji6
    by_cases c7 : 0 ≤ (ji6)
    · rw [if_pos c7] at H
      have c7b0 := eq_true c7
      have c7b1 : decide (0 ≤ (ji6)) = true := decide_eq_true c7
      clear c7
      by_cases c8 : (ji6) ≤ (l0.length : Int)
      · rw [if_pos c8] at H
        have c8b0 := eq_true c8
        have c8b1 : decide ((ji6) ≤ (l0.length : Int)) = true := decide_eq_true c8
        clear c8
        obtain ⟨y221, hy221⟩ : ∃ y_ : List (S74), y_ = (l0.drop ((ji6) : Int).toNat) := ⟨_, rfl⟩
        replace H : ((api_Version_49.f y221).bind fun t226 => (some t226)) = some r := by first | (rw [hy221]; with_reducible exact H) | (have H2_ := (Option.bind_some _ _).symm.trans H; rw [hy221]; with_reducible exact H2_) | (have H2_ := (Option.bind_some _ _).symm.trans H; with_reducible exact H2_) | with_reducible exact H | (rw [hy221]; exact H) | exact H
        have Ny221 := Aside0.mk hy221
        clear hy221
        replace H := Option.bind_eq_some_iff.mp H
        obtain ⟨t226, A90, H⟩ := H
        replace H : (some t226) = some r := H
        have A9 := Aside0.mk A90
        clear A90
        obtain rfl := Option.some.inj H
        go_enter Try.func41, Try.ntmps41
        go_wp2_with (first | ((with_reducible refine gate_callee (f := 26) rfl ?_); refine gL_ (some 6) Try.func26 #[.slice A0 l0.length c0] ?_; (with_reducible refine (chain_Check.calls k _ _ l0 true _ ?side1 ?side2 A3.out).mono ?_); (case side1 => repeat (first | exact (Kd.V_reads' HO0.out).2.2 | (with_reducible refine Kd.C_alloc ?_ _) | (with_reducible refine Kd.C_drewN ?_ _) | (with_reducible refine Kd.C_drew ?_))); (case side2 => exact (Kd.V_reads' HO0.out).2.1); rintro e w10 ⟨rfl, hb⟩; refine ⟨_, rfl, ?_⟩; replace HO0 := mbV_ HO0.out hb; replace HB := Aside0.mk (below_step (bq0_ HB.out) hb); (try clear hb); (try clear hb2); (try clear hk); (try clear hi)) | ((with_reducible refine gate_callee (f := 44) rfl ?_); refine gL_ (some 12) Try.func44 #[.slice A0 l0.length c0, .int .i64 a1] ?_; (with_reducible refine (chain_behind.calls _ _ l0 a1 t220 _ ?side1 ?side2 A5.out).mono ?_); (case side1 => repeat (first | exact (Kd.V_reads' HO0.out).2.2 | (with_reducible refine Kd.C_alloc ?_ _) | (with_reducible refine Kd.C_drewN ?_ _) | (with_reducible refine Kd.C_drew ?_))); (case side2 => exact (Kd.V_reads' HO0.out).2.1); rintro e w11 ⟨rfl, hb⟩; refine ⟨_, rfl, ?_⟩; replace HO0 := mbV_ HO0.out hb; replace HB := Aside0.mk (below_step (bq0_ HB.out) hb); (try clear hb); (try clear hb2); (try clear hk); (try clear hi); have q12 : ((ji6) : Int) ≤ ((l0.length : Int) : Int) := of_decide_eq_true (by first | (with_reducible assumption) | assumption); obtain ⟨i012, hi012, _, hsz12, _⟩ := info_parts info74; have hroom12 : l0.length ≤ c0 := (Kd.V_reads' HO0.out).2.1; have hC12 : Kd.F k74 _ _ A0 l0.length l0 := (Kd.V_at (base := w.heap.size) HO0.out).2.2; have q012 : (0 : Int) ≤ ((ji6) : Int) := of_decide_eq_true (by first | (with_reducible assumption) | assumption); have hcut12 := cut_from (P := Try.prog) 54 74 .i64 Try.underlying54 hi012 3 hsz12 A0 l0.length c0 (ji6) q012 q12; have hr12 := Kd.F_cut (m := ((ji6) : Int).toNat) (c := c0) hC12 (by omega) hroom12; obtain ⟨A12, hA12⟩ : ∃ A1, A1 = (if c0 = ((ji6) : Int).toNat then A0 else (A0 : Option Addr).map (·.add (((ji6) : Int).toNat * 3))) := ⟨_, rfl⟩; obtain ⟨c12, hc12⟩ : ∃ c1, c1 = c0 - ((ji6) : Int).toNat := ⟨_, rfl⟩; have hy12 : y221.length = l0.length - ((ji6) : Int).toNat := (by rw [Ny221.out, List.length_drop] <;> omega); rw [show (l0).drop ((ji6) : Int).toNat = y221 from Ny221.out.symm] at hr12; replace hr12 : Kd.F k74 _ _ A12 y221.length y221 := (by rw [hA12]; exact hr12); rw [← hy12, ← hA12, ← hc12] at hcut12; have HO225 := Aside0.mk (show Kd.V k74 74 _ w.heap.size _ (.slice A12 y221.length c12) y221 from Kd.V_mk (by rw [hy12, hc12]; exact Nat.sub_le_sub_right hroom12 _) hr12); have HC225 := Aside0.mk (show y221.length ≤ c12 from by rw [hy12, hc12]; exact Nat.sub_le_sub_right hroom12 _); clear hr12 hC12 hroom12 hi012 hsz12 hc12; have KY12 := Aside0.mk hy12; have KA12 := Aside0.mk hA12; clear hy12 hA12; replace q12 := eq_true q12) | ((with_reducible refine gate_callee (f := 49) rfl ?_); refine gL_ (some 16) Try.func49 #[.slice A12 y221.length c12] ?_; (with_reducible refine (api_Version_49.calls (fun k_ => (P0_ k_ ∨ w.heap.size ≤ k_)) _ _ y221 t226 _ ?side1 A9.out).mono ?_); (case side1 => (with_reducible repeat (first | apply Kd.V_alloc | apply Kd.V_drewN | apply Kd.V_drew)); first | with_reducible exact HO225.out | exact HO225.out | exact Kd.V_mono HO225.out (fun _ h_ => by simpa only [and_assoc, and_comm, and_left_comm] using h_)); rintro e w13 ⟨v227, rfl, ho0, hb⟩; refine ⟨_, rfl, ?_⟩; have HO228 := Aside0.mk (Kd.N_lower (Kd.N_mono (ok' := fun k_ => (P0_ k_ ∨ w.heap.size ≤ k_)) ho0 (fun k_ hk_ => Or.elim hk_ (fun hs_ => hs_) (fun hn_ => (.inr (Nat.le_trans (below_size (bq0_ HB.out)) hn_))))) (below_size (bq0_ HB.out))); replace HO0 := Aside0.mk (Kd.V_elder' (mvV_ HO0.out) (Kd.N_base ho0) hb); replace HO225 := Aside0.mk (Kd.V_elder' (mvV_ HO225.out) (Kd.N_base ho0) hb); replace HB := Aside0.mk (below_step (bq0_ HB.out) hb); (try clear hb); (try clear hb2); (try clear hk); (try clear hi); (try clear ho0)))
        go_ret
        exact ⟨_, by first | rfl | (simp [errW_none, errW_some] <;> rfl) | (simp only [← hji6]; first | rfl | (simp [errW_none, errW_some] <;> rfl)) | (simp [*, errW_none, errW_some] <;> rfl), Kd.N_V (mvN_ HO228.out), bq0_ HB.out⟩
      · rw [if_neg c8] at H
        exact absurd H (by simp)
    · rw [if_neg c7] at H
      exact absurd H (by simp)
  · replace c4 := Bool.eq_false_iff.mpr c4
    subst c4
    have H1 : (some l0) = some r := by rw [if_neg (show ¬ (false = true) by decide)] at H; exact H
    clear H
    have H := H1
    clear H1
    obtain rfl := Option.some.inj H
    go_enter Try.func41, Try.ntmps41
    go_wp2_with (first | ((with_reducible refine gate_callee (f := 26) rfl ?_); refine gL_ (some 6) Try.func26 #[.slice A0 l0.length c0] ?_; (with_reducible refine (chain_Check.calls k _ _ l0 false _ ?side1 ?side2 A3.out).mono ?_); (case side1 => repeat (first | exact (Kd.V_reads' HO0.out).2.2 | (with_reducible refine Kd.C_alloc ?_ _) | (with_reducible refine Kd.C_drewN ?_ _) | (with_reducible refine Kd.C_drew ?_))); (case side2 => exact (Kd.V_reads' HO0.out).2.1); rintro e w14 ⟨rfl, hb⟩; refine ⟨_, rfl, ?_⟩; replace HO0 := mbV_ HO0.out hb; replace HB := Aside0.mk (below_step (bq0_ HB.out) hb); (try clear hb); (try clear hb2); (try clear hk); (try clear hi)))
    go_ret
    exact ⟨_, by first | rfl | (simp <;> rfl) | (simp [*] <;> rfl), mvV_ HO0.out, bq0_ HB.out⟩
end Go.Proofs.Ytmolbbebglfhmaa.A
