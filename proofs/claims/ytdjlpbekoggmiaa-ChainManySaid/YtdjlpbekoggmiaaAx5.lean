/- Lean functions that answer as the Go functions do, and the proofs that they do; no conditions. Written by this session's own driver: a scratch copy of the kit's print with the session's additions (wip/xprint). -/
import Derived.Test.YtdjlpbekoggmiaaAx0
namespace Go.Proofs.Ytdjlpbekoggmiaa.A
open Go.RowKit Go.Proofs.YtdjlpbekoggmiaaW.PrintWords Go.Proofs.YtdjlpbekoggmiaaW.PrintLast Go.Proofs.YtdjlpbekoggmiaaW.PrintMore
attribute [local go_sem] max2_int min2_int max_two min_two max_three min_three max_four min_four   -- for this text's walks alone
set_option linter.unusedVariables false
set_option linter.unusedSimpArgs false

/-! ### api_Version_31: function 31 (given) -/
set_option maxHeartbeats 8000000 in
set_option maxRecDepth 100000 in
theorem api_Version_31.by_ (q : S41 → Bool) (g : Nat) (lb : Array Value) (A0 : Option Addr) (c0 : Nat) (l0 : List (S41)) (w : World) (hr0 : Kd.C k41 w A0 l0.length l0)
    (eg : ∀ args W, (callFunc g args).run Try.prog W = .ok (.enter g args) W)
    (hp : ∀ (W : World) (x : S41) (A1_ : Option Addr) (c1_ : Nat) (A2_ : Option Addr) (c2_ : Nat), x ∈ l0 → Below w.heap.size w W → x.f1.f0.length ≤ c1_ → Kd.C (Kd.int .i64) W A1_ x.f1.f0.length x.f1.f0 → x.f1.f1.length ≤ c2_ → Kd.C (Kd.int .i64) W A2_ x.f1.f1.length x.f1.f1 → Calls Try.prog g (#[.agg #[.int .i64 x.f0, .slice A1_ x.f1.f0.length c1_, .slice A2_ x.f1.f1.length c2_]] ++ lb) W fun e w' => e = .returned (.bool (q x)) ∧ Below W.heap.size W w') :
    Calls Try.prog 31 #[.slice A0 l0.length c0, .func (.func g) #[] lb] w fun e w' => e = .returned (.int .i64 (idxF q 0 l0)) ∧ Below w.heap.size w w' := by
  have HR := Aside0.mk hr0
  have hbig := hr0.2.1
  clear hr0
  go_enter Try.func31, Try.ntmps31
  go_wp2
  go_loopg [5, 8] l0.length (fun gg _ s8 wr => ∃ kk : Nat, kk ≤ l0.length ∧ l0.length - kk ≤ gg ∧ s8 = .int .i64 kk ∧ Aside0 (Below w.heap.size w wr) ∧ Aside0 (∀ (j : Nat) (y : S41), j < kk → l0[j]? = some y → q y = false))
  case atStart => exact ⟨0, Nat.zero_le _, by omega, rfl, ⟨Below.refl _ w⟩, ⟨fun j y hj => absurd hj (Nat.not_lt_zero _)⟩⟩
  case round =>
    obtain ⟨kk, hkk, hg, rfl, BW, AA⟩ := hrel
    by_cases hlt : kk < l0.length
    · have hltz : (kk : Int) < (l0.length : Int) := by omega
      obtain ⟨ad, A1_, c1_, A2_, c2_, rfl, hx0, hx1, hx2, hl1, hi1, hl2, hi2⟩ := at_T41 (Kd.C_below HR.out BW.out) (kk : Int) (by omega) hltz
      have hE := show l0[kk]? = some (rd_T41 l0 (kk : Int)) by simp [rd_T41, hlt]
      have hcall := hp wr (rd_T41 l0 (kk : Int)) A1_ c1_ A2_ c2_ (List.mem_of_getElem? hE) BW.out hl1 hi1 hl2 hi2
      have HE := Aside0.mk hE
      clear hp hE hl1 hi1 hl2 hi2
      (try simp only [Int.toNat_natCast] at hx0 hx1 hx2)
      generalize rd_T41 l0 (kk : Int) = y at hx0 hx1 hx2 hcall HE
      cases hq : q y with
      | true =>
        have HQ := Aside0.mk hq
        rw [hq] at hcall
        have HCALL := Aside0.mk hcall
        clear hq hcall
        go_wp2_with fail
        refine HCALL.out.mono ?_
        rintro e w' ⟨rfl, hb⟩
        have hb' := Aside0.mk hb
        clear hb HCALL
        go_wp2
        go_ret
        refine ⟨?_, below_step BW.out hb'.out⟩
        rw [idxF_hit q l0 0 kk y HE.out HQ.out AA.out, Nat.zero_add]
        rfl
      | false =>
        have HQ := Aside0.mk hq
        rw [hq] at hcall
        have HCALL := Aside0.mk hcall
        clear hq hcall
        go_wp2_with fail
        refine HCALL.out.mono ?_
        rintro e w' ⟨rfl, hb⟩
        have hb' := Aside0.mk hb
        clear hb HCALL
        go_wp2
        go_roundg (l0.length - (kk + 1))
        case measure => omega
        case rel =>
          refine ⟨kk + 1, by omega, by omega, by go_num, ⟨below_step BW.out hb'.out⟩, ⟨fun j z hj hz => ?_⟩⟩
          by_cases e : j = kk
          · subst e
            rw [HE.out] at hz
            cases hz
            exact HQ.out
          · exact AA.out j z (by omega) hz
    · have hltz : ¬ (kk : Int) < (l0.length : Int) := by omega
      have hkl : kk = l0.length := by omega
      have HK := Aside0.mk hkl
      clear hkl
      go_wp2
      go_ret
      refine ⟨?_, BW.out⟩
      rw [idxF_miss q l0 0 (fun j y hy => AA.out j y (by have := (List.getElem?_eq_some_iff.1 hy).1; have := HK.out; omega) hy)]
      rfl

/-! ### chain_behind: function 24 (given) -/
set_option maxHeartbeats 8000000 in
set_option maxRecDepth 100000 in
theorem behind1 (s stamp : Int) (a b : Value) (p : Addr) (W : World) (hc : W.cell? p = some (.int .i64 stamp)) :
    Calls Try.prog 32 #[.agg #[.int .i64 s, a, b], .pointer (some p)] W fun e w' => e = .returned (.bool (decide (stamp < s))) ∧ Below W.heap.size W w' := by
  have hlt : p.block < W.heap.size := World.block_lt_of_cell? W p hc
  have hu41 := Try.underlying41
  go_enter Try.func32, Try.ntmps32
  go_wp2
  go_ret
  exact ⟨rfl, below_alloc (Below.refl _ _) _⟩
def chain_behind.f (l0 : List S41) (a1 : Int) : Option Int := some ((l0.takeWhile fun v => decide (v.f0 ≤ a1)).length : Int)
theorem behind_idx (l : List S41) (a1 : Int) : idxF (fun v => decide (a1 < v.f0)) 0 l = if (l.takeWhile fun v => decide (v.f0 ≤ a1)).length < l.length then (((l.takeWhile fun v => decide (v.f0 ≤ a1)).length : Nat) : Int) else -1 := by
  have e : (fun v : S41 => decide (v.f0 ≤ a1)) = fun v => !decide (a1 < v.f0) := by
    funext v
    by_cases h : v.f0 ≤ a1
    · rw [decide_eq_true h, decide_eq_false (by omega)]; rfl
    · rw [decide_eq_false h, decide_eq_true (by omega)]; rfl
  rw [idxF_take, Nat.zero_add, e]
set_option maxHeartbeats 8000000 in
set_option maxRecDepth 100000 in
theorem chain_behind.calls (A0 : Option Addr) (c0 : Nat) (l0 : List S41) (a1 : Int) (r : Int) (w : World) (hr0 : Kd.C k41 w A0 l0.length l0) (hc0 : l0.length ≤ c0) (h : chain_behind.f l0 a1 = some r) :
    Calls Try.prog 24 #[.slice A0 l0.length c0, .int .i64 a1] w fun e w' => e = .returned (.int .i64 r) ∧ Below w.heap.size w w' := by
  unfold chain_behind.f at h
  have h := Option.some.inj h
  have HR := Aside0.mk hr0
  have HH := Aside0.mk h
  have HI := Aside0.mk (behind_idx l0 a1)
  have HM : (l0.takeWhile fun v => decide (v.f0 ≤ a1)).length ≤ l0.length := (List.takeWhile_sublist _).length_le
  generalize (l0.takeWhile fun v => decide (v.f0 ≤ a1)).length = m at HI HH HM
  clear hr0 h hc0
  by_cases hm : m < l0.length
  · have hi : idxF (fun v => decide (a1 < v.f0)) 0 l0 = (m : Int) := by rw [HI.out, if_pos hm]
    have HX := Aside0.mk hi
    clear hi
    go_enter Try.func24, Try.ntmps24
    go_wp2_with (go_at_call 31; (with_reducible refine (api_Version_31.by_ (fun v => decide (a1 < v.f0)) 32 #[.pointer (some ⟨w.heap.size, 0, none⟩)] A0 c0 l0 _ ?s1 ?s2 ?s3).mono ?_); (case s1 => exact Kd.C_alloc HR.out _); (case s2 => exact enters_ Try.prog Try.func32 (by kernel_rfl) rfl); (case s3 => exact (fun W x A1 c1 A2 c2 _ hb _ _ _ _ => behind1 x.f0 a1 _ _ ⟨w.heap.size, 0, none⟩ W ((hb.cell (p := ⟨w.heap.size, 0, none⟩) (by simp)).trans (by rw [World.cell?_alloc_at _ _ _ _ rfl]; rfl)))); rintro e w' ⟨rfl, hb⟩; rw [HX.out]; have HB := Aside0.mk hb; clear hb)
    go_ret
    exact ⟨by rw [← HH.out]; rfl, below_step (below_alloc (Below.refl _ _) _) HB.out⟩
  · have hi : idxF (fun v => decide (a1 < v.f0)) 0 l0 = -1 := by rw [HI.out, if_neg hm]
    have HX := Aside0.mk hi
    have hml : m = l0.length := by omega
    have HML := Aside0.mk hml
    clear hi hml
    go_enter Try.func24, Try.ntmps24
    go_wp2_with (go_at_call 31; (with_reducible refine (api_Version_31.by_ (fun v => decide (a1 < v.f0)) 32 #[.pointer (some ⟨w.heap.size, 0, none⟩)] A0 c0 l0 _ ?s1 ?s2 ?s3).mono ?_); (case s1 => exact Kd.C_alloc HR.out _); (case s2 => exact enters_ Try.prog Try.func32 (by kernel_rfl) rfl); (case s3 => exact (fun W x A1 c1 A2 c2 _ hb _ _ _ _ => behind1 x.f0 a1 _ _ ⟨w.heap.size, 0, none⟩ W ((hb.cell (p := ⟨w.heap.size, 0, none⟩) (by simp)).trans (by rw [World.cell?_alloc_at _ _ _ _ rfl]; rfl)))); rintro e w' ⟨rfl, hb⟩; rw [HX.out]; have HB := Aside0.mk hb; clear hb)
    go_ret
    exact ⟨by rw [← HH.out, HML.out]; rfl, below_step (below_alloc (Below.refl _ _) _) HB.out⟩


/-! ### slices_Clone_int_int: function 33 (given) -/
def slices_Clone_int_int.f (l0 : List Int) : Option (List Int) := if l0.length < 17592186044416 then some l0 else none
set_option maxHeartbeats 8000000 in
set_option maxRecDepth 100000 in
theorem slices_Clone_int_int.calls (A0 : Option Addr) (c0 : Nat) (l0 : List Int) (r : List Int) (w : World) (hr0 : Kd.C (Kd.int .i64) w A0 l0.length l0) (hc0 : l0.length ≤ c0) (h : slices_Clone_int_int.f l0 = some r) :
    Calls Try.prog 33 #[.slice A0 l0.length c0] w fun e w' => ∃ v0_ : Value, e = .returned (v0_) ∧ Kd.R (Kd.int .i64) 3 w' w.heap.size (fun _ => True) v0_ r ∧ Below w.heap.size w w' := by
  unfold slices_Clone_int_int.f at h
  by_cases hl : l0.length < 17592186044416
  · rw [if_pos hl] at h
    obtain rfl := Option.some.inj h
    have HL := Aside0.mk hl
    have HR0 := Aside0.mk hr0
    have HC0 := Aside0.mk hc0
    have HB := Aside0.mk (Below.refl w.heap.size w)
    clear hl h
    cases A0 with
    | none =>
      have h0 : l0 = [] := by
        by_cases hn : l0 = []
        · exact hn
        · exfalso
          obtain ⟨ad, he, _⟩ := Kd.at_int HR0.out 0 (by omega) (by have := List.length_pos_iff.mpr hn; omega)
          cases he
      subst h0
      clear hr0 hc0
      have hne : ∀ W : World, (binOp .eql 23 (.slice none 0 c0) (.slice none 0 0)).run Try.prog W = .ok (.bool true) W := fun W => Lib.run_eql_slice_nil W 23 3 none 0 c0 0 0 Try.underlying23
      simp only [List.length_nil]
      go_enter Try.func33, Try.ntmps33
      go_wp2
      go_ret
      exact ⟨_, rfl, Kd.R_nil _ _ _ _ _, HB.out⟩
    | some ad =>
      clear hr0 hc0
      have hne : ∀ W : World, (binOp .eql 23 (.slice (some ad) l0.length c0) (.slice none 0 0)).run Try.prog W = .ok (.bool false) W := fun W => Lib.run_eql_slice_nil W 23 3 (some ad) l0.length c0 0 0 Try.underlying23
      obtain ⟨y1, hy1⟩ : ∃ y_ : List Int, y_ = ([] : List Int) := ⟨_, rfl⟩
      have Ny1 := Aside0.mk hy1
      obtain ⟨y2, hy2⟩ : ∃ y_ : List Int, y_ = y1 ++ l0 := ⟨_, rfl⟩
      have Ny2 := Aside0.mk hy2
      have he : y2 = l0 := by rw [hy2, hy1]; rfl
      have HE := Aside0.mk he
      clear hy1 hy2 he
      go_enter Try.func33, Try.ntmps33
      go_wp2_with (first | ((with_reducible refine gate_dst (N := 5) rfl ?_); refine Kd.R_lit (Kd.int .i64) _ 3 ?hg (N := 5) ?hd (xs := ([] : List Int)) (inner := []) (ok := fun _ => True) (okp := fun _ => True) ?hr ?hp (fun _ hk => hk) trivial (Below.refl _ _) (Nat.le_refl _) (by simp) ?_; (case hd => rfl); (case hg => rfl); (case hr => first | (go_simp; done) | (go_simp; rfl)); (case hp => exact (Reps.none _ _)); intro v218 w4 ho5 hb hg_ hnew_; clear hg_ hnew_; rw [← Ny1.out] at ho5; have n0_ := Aside0.mk (Kd.R_lower ho5 (below_size (by repeat (first | (with_reducible first | exact HB.out | apply below_alloc | apply pw_below_drewN | apply below_drew1) | exact HB.out)))); have n1_ := Aside0.mk (below_step (by repeat (first | (with_reducible first | exact HB.out | apply below_alloc | apply pw_below_drewN | apply below_drew1) | exact HB.out)) hb); clear HB; have HO219 := n0_; have HB := n1_; clear n0_ n1_; clear hb ho5) | ((with_reducible refine gate_builtin (b := .append) (xs := #[.tmp 5, .tmp 6]) rfl ?_); at_builtin; refine Kd.R_append_rows (Kd.int .i64) (w0 := w) w.heap.size rfl (.tmp 5) (.tmp 6) 23 3 (.int .i64 0) 8 rfl Try.underlying23 info3 rfl (by decide) (by omega) v218 y1 l0 _ _ _ (fun _ => True) (fun _ => False) rfl rfl ?aO ?aR (fun _ _ h => h) (fun _ h => h.elim) ?aF ?aB ?aS ?aL ?_; (case aR => repeat (first | exact (Kd.C_below HR0.out HB.out) | (with_reducible refine Kd.C_alloc ?_ _) | (with_reducible refine Kd.C_drewN ?_ _) | (with_reducible refine Kd.C_drew ?_))); (case aB => exact (by repeat (first | (with_reducible first | exact HB.out | apply below_alloc | apply pw_below_drewN | apply below_drew1) | exact HB.out))); (case aF => exact (fun _ _ => trivial)); (case aO => exact (by (with_reducible repeat (first | apply Kd.R_alloc | apply Kd.R_drewN | apply Kd.R_drew)); exact HO219.out)); (case aS => exact (below_size (by repeat (first | (with_reducible first | exact HB.out | apply below_alloc | apply pw_below_drewN | apply below_drew1) | exact HB.out)))); (case aL => have := HL.out; have h3 := Ny1.out; rw [h3]; simp; omega); intro v221 w6 ho hb hg hat; rw [← Ny2.out, HE.out] at ho; have n0_ := Aside0.mk (hb); have n1_ := Aside0.mk (ho); clear HB; clear HO219; have HB := n0_; have HO222 := n1_; clear n0_ n1_; clear ho hb hg hat))
      go_ret
      exact ⟨_, rfl, by (with_reducible repeat (first | apply Kd.R_alloc | apply Kd.R_drewN | apply Kd.R_drew)); exact HO222.out, HB.out⟩
  · rw [if_neg hl] at h; cases h


end Go.Proofs.Ytdjlpbekoggmiaa.A
