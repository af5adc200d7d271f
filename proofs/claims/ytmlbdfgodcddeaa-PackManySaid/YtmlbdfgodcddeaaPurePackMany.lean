/- For all lists and sizes PackMany answers true; no conditions but the sizes that the statement names. -/
import Derived.Test.YtmlbdfgodcddeaaAx14
import Derived.Test.YtmlbdfgodcddeaaPackA
import Derived.Test.YtmlbdfgodcddeaaPackAwake
namespace Go.Proofs.Ytmlbdfgodcddeaa.Pure
open Go.RowKit Go.Proofs.Ytmlbdfgodcddeaa.Plain Go.Proofs.Ytmlbdfgodcddeaa.A Go.Proofs.YtmlbdfgodcddeaaW.PrintWords Go.Proofs.YtmlbdfgodcddeaaW.PrintLast Go.Proofs.YtmlbdfgodcddeaaW.PrintMore
set_option linter.unusedVariables false
set_option linter.unusedSimpArgs false
theorem all_take_succ {l : List Int} {i : Nat} (h : i < l.length) (p : Int → Bool) : (l.take (i + 1)).all p = ((l.take i).all p && p l[i]) := by
  rw [List.take_add_one, List.getElem?_eq_getElem h, List.all_append, Option.toList_some, List.all_cons, List.all_nil, Bool.and_true]
theorem l1_ok (l : List Int) (size : Int) (hl : l.length ≤ 200) (hm : ∀ n ∈ l, pkMay n size = true ∧ -9223372036854775808 ≤ n ∧ n ≤ 9223372036854775807) :
    ∀ (d i k : Nat), l.length - i = d → i ≤ l.length → d < k → fullerlaw08_PackMany.l1 k l size true (pkAll size (l.drop i)) (i : Int) = some true := by
  intro d
  induction d with
  | zero =>
    intro i k hd hi hk
    obtain ⟨k, rfl⟩ : ∃ q, k = q + 1 := ⟨k - 1, by omega⟩
    have e : i = l.length := by omega
    subst e
    unfold fullerlaw08_PackMany.l1
    rw [if_neg (by omega), if_pos rfl, List.drop_length]
    simp [pkAll]
  | succ d ih =>
    intro i k hd hi hk
    obtain ⟨k, rfl⟩ : ∃ q, k = q + 1 := ⟨k - 1, by omega⟩
    have hlt : i < l.length := by omega
    obtain ⟨a, b, c⟩ := hm l[i] (List.getElem_mem hlt)
    have hs := ok_pos (may_ok a)
    have hsz : (pkAll size (l.drop i)).length < 140737488355328 := by
      rw [pkAll_length, List.length_drop]
      have : size.toNat * (l.length - i) ≤ 8 * 200 := Nat.mul_le_mul (by omega) (by omega)
      omega
    have hn : rd l (i : Int) = l[i] := by unfold rd; rw [Int.toNat_natCast]; simp [List.getD_eq_getElem?_getD, hlt]
    have hw : wrap64 ((i : Int) + 1) = ((i + 1 : Nat) : Int) := w64 (by omega) (by omega)
    have hf : pack_Take.f (pkAll size (l.drop i)) size = some (l[i], pkAll size (l.drop (i + 1)), 0) := by
      unfold pack_Take.f
      rw [if_pos hsz, List.drop_eq_getElem_cons hlt, pkAll, take_one _ _ _ a b c]
    unfold fullerlaw08_PackMany.l1
    rw [if_pos (by omega), hf, hn, hw]
    simp only [Option.bind_some, if_true]
    rw [if_pos (by omega)]
    exact ih (i + 1) k (by omega) (by omega) (by omega)
theorem l0_ok (l : List Int) (size : Int) (hl : l.length ≤ 200) (hx : ∀ n ∈ l, -9223372036854775808 ≤ n ∧ n ≤ 9223372036854775807) :
    ∀ (d i k : Nat), l.length - i = d → i ≤ l.length → 300 + d < k → (l.take i).all (fun n => pkMay n size) = true → fullerlaw08_PackMany.l0 k l size true (pkAll size (l.take i)) (i : Int) = some true := by
  have hlist : pack_List.f ([] : List Int) l size = some (pkList [] l size) := by
    unfold pack_List.f
    rw [if_pos (by simp; omega)]
  intro d
  induction d with
  | zero =>
    intro i k hd hi hk hall
    obtain ⟨k, rfl⟩ : ∃ q, k = q + 2 := ⟨k - 2, by omega⟩
    have e : i = l.length := by omega
    subst e
    rw [List.take_length] at hall ⊢
    have hm : ∀ n ∈ l, pkMay n size = true ∧ -9223372036854775808 ≤ n ∧ n ≤ 9223372036854775807 := fun n hn => ⟨List.all_eq_true.mp hall n hn, hx n hn⟩
    have hl1 := l1_ok l size hl hm l.length 0 k rfl (by omega) (by omega)
    rw [List.drop_zero] at hl1
    have hl1' : fullerlaw08_PackMany.l1 k l size true (pkAll size l) 0 = some true := hl1
    have hj : fullerlaw08_PackMany.j1 (k + 1) l size true (pkAll size l) false = some true := by
      simp only [fullerlaw08_PackMany.j1, Bool.false_eq_true, if_false]
      exact hl1'
    unfold fullerlaw08_PackMany.l0
    rw [if_neg (by omega), hlist]
    simp only [Option.bind_some]
    by_cases h0 : (l.length : Int) > 0
    · obtain ⟨n, hn⟩ : ∃ n, n ∈ l := List.exists_mem_of_length_pos (by omega)
      have hok : pkListOk l size = true := by
        unfold pkListOk
        rw [may_ok (hm n hn).1, hall]
        simp; omega
      have hsz : (strOfNums [(l.length : Int) % 256]).size + (strOfNums (pkAll size l)).size ≤ 9223372036854775807 := by
        have hs := ok_pos (may_ok (hm n hn).1)
        rw [strOfNums_size, strOfNums_size, pkAll_length]
        have : size.toNat * l.length ≤ 8 * 200 := Nat.mul_le_mul (by omega) (by omega)
        simp; omega
      have hmod : (l.length : Int) % 256 = (l.length : Int) := by omega
      rw [if_pos h0]
      unfold pkList
      rw [if_pos hok]
      simp only [if_true, List.nil_append]
      rw [if_pos hsz, hmod, ← str_append, List.singleton_append, bne_self_eq_false]
      exact hj
    · rw [if_neg h0]
      exact hj
  | succ d ih =>
    intro i k hd hi hk hall
    obtain ⟨k, rfl⟩ : ∃ q, k = q + 1 := ⟨k - 1, by omega⟩
    have hlt : i < l.length := by omega
    have hn : rd l (i : Int) = l[i] := by unfold rd; rw [Int.toNat_natCast]; simp [List.getD_eq_getElem?_getD, hlt]
    have hw : wrap64 ((i : Int) + 1) = ((i + 1 : Nat) : Int) := w64 (by omega) (by omega)
    have hsz : (pkAll size (l.take i)).length + 8 < 140737488355328 := by
      rw [pkAll_length, List.length_take]
      by_cases h0 : i = 0
      · subst h0; simp
      · have h00 : 0 < l.length := by omega
        have h1 : l[0] ∈ l.take i := by
          rw [List.mem_take_iff_getElem]
          exact ⟨0, by omega, rfl⟩
        have hs := ok_pos (may_ok (List.all_eq_true.mp hall _ h1))
        have : size.toNat * min i l.length ≤ 8 * 200 := Nat.mul_le_mul (by omega) (by omega)
        omega
    have hput : pack_Put.f (pkAll size (l.take i)) l[i] size = some (pkPut (pkAll size (l.take i)) l[i] size) := by
      unfold pack_Put.f
      rw [if_pos hsz]
    unfold fullerlaw08_PackMany.l0
    rw [if_pos (by omega), if_pos (by omega), hn, hput, hw]
    simp only [Option.bind_some]
    unfold pkPut
    by_cases hp : pkMay l[i] size = true
    · rw [if_pos hp]
      simp only [if_true]
      have e : pkAll size (l.take i) ++ pkBytes size.toNat l[i] = pkAll size (l.take (i + 1)) := by
        rw [← pkAll_snoc, List.take_add_one, List.getElem?_eq_getElem hlt, Option.toList_some]
      rw [e]
      exact ih (i + 1) k (by omega) (by omega) (by omega) (by rw [all_take_succ hlt, hall, hp]; rfl)
    · rw [if_neg hp]
      have hno : pkListOk l size = false := by
        rw [Bool.eq_false_iff]
        intro hy
        unfold pkListOk at hy
        rw [Bool.and_eq_true] at hy
        exact hp (List.all_eq_true.mp hy.2 _ (List.getElem_mem hlt))
      rw [hlist]
      simp [pkList, hno]
theorem PackMany : fullerlaw08_PackMany.Pure := by
  intro l size _ _ hx _
  refine ⟨2000, ?_⟩
  unfold fullerlaw08_PackMany.f
  rw [awake_f 2000 (by omega)]
  simp only [Option.bind_some]
  by_cases h1 : (l.length : Int) > 200
  · rw [if_pos h1]
  · rw [if_neg h1]
    have hx' : ∀ n ∈ l, -9223372036854775808 ≤ n ∧ n ≤ 9223372036854775807 := fun n hn => by
      have := hx n hn
      simp [Lit.wf, IntKind.min, IntKind.max, IntKind.signed, IntKind.bits] at this
      omega
    exact l0_ok l size (by omega) hx' l.length 0 2000 (by omega) (by omega) (by omega) (by simp)
end Go.Proofs.Ytmlbdfgodcddeaa.Pure
