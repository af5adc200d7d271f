/- Graphs as bytes: the document's answer is the same; no conditions. -/
import Derived.Test.YtchmfdaebohplaaWireA
import Derived.Test.YtchmfdaebohplaaGraphR
import Derived.Test.YtchmfdaebohplaaPackR
import Derived.Test.YtchmfdaebohplaaAx10
import Derived.Test.YtchmfdaebohplaaAx12
import Derived.Test.YtchmfdaebohplaaAx11
namespace Go.Proofs.Ytchmfdaebohplaa.Plain
open Go.RowKit Go.Proofs.Ytchmfdaebohplaa.A Go.Proofs.YtchmfdaebohplaaW.PrintWords Go.Proofs.YtchmfdaebohplaaW.PrintLast Go.Proofs.YtchmfdaebohplaaW.PrintMore
set_option linter.unusedVariables false
set_option linter.unusedSimpArgs false

theorem rlg_l0 (l : List Int) (size : Int) (hs : okSize size = true) (hl : l.length ≤ 255) (hm : ∀ n ∈ l, pkMay n size = true) (e : Nat) : ∀ (k i : Nat) (x : List Int), l.length - i = e → i ≤ l.length → e + 21 ≤ k → x.length + 8 * e ≤ 100000000000000 →
    fullerref08_List.l0 k l size x (i : Int) = some (x ++ pkAll size (l.drop i), 0) := by
  induction e with
  | zero =>
    intro k i x hd hi hk hx
    obtain ⟨k, rfl⟩ : ∃ q, k = q + 1 := ⟨k - 1, by omega⟩
    rw [fullerref08_List.l0, if_neg (by omega), List.drop_eq_nil_of_le (by omega), pkAll, List.append_nil]
  | succ e ih =>
    intro k i x hd hi hk hx
    obtain ⟨k, rfl⟩ : ∃ q, k = q + 1 := ⟨k - 1, by omega⟩
    have hlt : i < l.length := by omega
    have hsz := ok_pos hs
    have ih' := ih k (i + 1) (x ++ pkBytes size.toNat l[i]) (by omega) (by omega) (by omega) (by simp only [List.length_append, pkBytes_length]; omega)
    rw [fullerref08_List.l0, if_pos (by omega), if_pos (by omega), rd_lt hlt, rpput_f _ _ _ (by omega) k (by omega)]
    have hmi := hm _ (List.getElem_mem hlt)
    simp only [Option.bind_some, pkPut, hmi, if_true]
    have hw : wrap64 ((i : Int) + 1) = ((i + 1 : Nat) : Int) := by rw [w64 (by omega) (by omega)]; omega
    rw [hw, ih', List.drop_eq_getElem_cons hlt, pkAll, List.append_assoc]
theorem rlg_f (b s : List Int) (size : Int) (hs : size = 1 ∨ size = 8) (hl : s.length ≤ 255) (hm : ∀ n ∈ s, pkMay n size = true) (hb : b.length ≤ 1000000000000) (k : Nat) (hk : 400 ≤ k) : fullerref08_List.f k b s size = some (b ++ ((s.length : Int) :: pkAll size s), 0) := by
  have hok : okSize size = true := by rcases hs with rfl | rfl <;> rfl
  unfold fullerref08_List.f
  obtain ⟨k, rfl⟩ : ∃ q, k = q + 1 := ⟨k - 1, by omega⟩
  have h := rlg_l0 s size hok (by omega) hm s.length k 0 (b ++ [((s.length : Int)) % 256]) (by omega) (by omega) (by omega) (by simp; omega)
  simp only [Int.natCast_zero, List.drop_zero] at h
  have hj : fullerref08_List.j0 (k + 1) b s size false = some (b ++ ((s.length : Int) :: pkAll size s), 0) := by
    rw [fullerref08_List.j0, if_neg (by simp)]
    simp only [Option.bind_some, List.length_nil, Nat.zero_add, List.nil_append]
    rw [if_pos (by omega), if_pos (by omega), h, show (s.length : Int) % 256 = (s.length : Int) by omega]
    simp
  rw [if_neg (by omega)]
  rcases hs with rfl | rfl
  · rw [if_pos rfl]; exact hj
  · rw [if_neg (by decide), if_neg (by decide)]; exact hj
theorem pkTake_ok {r : List Int} {size : Int} (hs : okSize size = true) (h : size ≤ (r.length : Int)) : pkTake r size = (tkl 0 (r.take size.toNat), r.drop size.toNat, 0) := by unfold pkTake; rw [if_pos ⟨hs, h⟩]
theorem pkTake_bad {r : List Int} {size : Int} (h : ¬ size ≤ (r.length : Int)) : pkTake r size = (0, [], 40) := by unfold pkTake; rw [if_neg (fun hh => h hh.2)]
theorem rtg_l0 (size : Int) (hs : okSize size = true) (m : Nat) (hm : m ≤ 255) (e : Nat) : ∀ (k i : Nat) (r out : List Int), m - i = e → i ≤ m → e + 30 ≤ k → octs r → r.length ≤ 1000000000000 → out.length = i →
    fullerref08_TakeList.l0 k size (m : Int) r out (i : Int) = some (match pkTL size e r with | some p => (out ++ p.1, p.2, 0) | none => ([], [], 40)) := by
  induction e with
  | zero =>
    intro k i r out hd hi hk ho hr hol
    obtain ⟨k, rfl⟩ : ∃ q, k = q + 1 := ⟨k - 1, by omega⟩
    rw [fullerref08_TakeList.l0, if_neg (by omega)]
    simp [pkTL]
  | succ e ih =>
    intro k i r out hd hi hk ho hr hol
    obtain ⟨k, rfl⟩ : ∃ q, k = q + 1 := ⟨k - 1, by omega⟩
    have ih' := ih k (i + 1) (r.drop size.toNat) (out ++ [tkl 0 (r.take size.toNat)]) (by omega) (by omega) (by omega) (octs_drop ho _) (by simp only [List.length_drop]; omega) (by simp [hol])
    rw [fullerref08_TakeList.l0, if_pos (by omega), rtake_f r size ho hr k (by omega), pkTL]
    simp only [Option.bind_some]
    by_cases h : size ≤ (r.length : Int)
    · have hw : wrap64 ((i : Int) + 1) = ((i + 1 : Nat) : Int) := by rw [w64 (by omega) (by omega)]; omega
      rw [pkTake_ok hs h, if_pos h]
      simp only [if_true]
      rw [if_pos (by omega), hw, ih']
      cases pkTL size e (r.drop size.toNat) with
      | none => rfl
      | some p => simp
    · rw [pkTake_bad h, if_neg h]
      simp
theorem rtg_f (b : List Int) (size : Int) (hs : size = 1 ∨ size = 8) (ho : octs b) (hb : b.length ≤ 1000000000000) (k : Nat) (hk : 400 ≤ k) : fullerref08_TakeList.f k b size = some (pkTakeList b size) := by
  have hok : okSize size = true := by rcases hs with rfl | rfl <;> rfl
  unfold fullerref08_TakeList.f pkTakeList
  rw [rtake_f b 1 ho hb k (by omega)]
  simp only [Option.bind_some]
  obtain ⟨k, rfl⟩ : ∃ q, k = q + 1 := ⟨k - 1, by omega⟩
  by_cases h : (1 : Int) ≤ (b.length : Int)
  · rw [pkTake_ok rfl h]
    simp only [if_true]
    have hm := many_ok ho
    have := rtg_l0 size hok (tkl 0 (b.take 1)).toNat (by omega) (tkl 0 (b.take 1)).toNat k 0 (b.drop 1) [] (by omega) (by omega) (by omega) (octs_drop ho 1) (by simp only [List.length_drop]; omega) rfl
    rw [show (((tkl 0 (b.take 1)).toNat : Nat) : Int) = tkl 0 (b.take 1) by omega] at this
    simp only [Int.natCast_zero, List.nil_append] at this
    have hj : fullerref08_TakeList.j0 (k + 1) size (tkl 0 (b.take (1 : Int).toNat)) (b.drop (1 : Int).toNat) false = some (match pkTL size (tkl 0 (b.take 1)).toNat (b.drop 1) with | some p => (p.1, p.2, 0) | none => ([], [], 40)) := by
      rw [fullerref08_TakeList.j0, if_neg (by simp)]
      exact this
    rw [if_pos (show okSize size = true ∧ 1 ≤ b.length from ⟨hok, by omega⟩)]
    rcases hs with rfl | rfl
    · rw [if_pos rfl]; exact hj
    · rw [if_neg (by decide), if_neg (by decide)]; exact hj
  · rw [pkTake_bad h, if_neg (show ¬ (((0 : Int), ([] : List Int), (40 : Int)).2.2 = 0) from by decide), if_neg (fun hh => h (by omega)), fullerref08_TakeList.j0, if_pos rfl]
theorem rwwrite_l0 (l : List S36) (h : GOk l) (d : Nat) : ∀ (k i : Nat) (x : List Int), l.length - i = d → i ≤ l.length → d + 410 ≤ k → x.length ≤ 1000 + 37 * i →
    fullerref12_Write.l0 k l x (i : Int) = some (x ++ encNs (l.drop i), 0) := by
  induction d with
  | zero =>
    intro k i x hd hi hk hx
    obtain ⟨k, rfl⟩ : ∃ q, k = q + 1 := ⟨k - 1, by omega⟩
    rw [fullerref12_Write.l0, if_neg (by omega), List.drop_eq_nil_of_le (by omega)]
    simp [encNs]
  | succ d ih =>
    intro k i x hd hi hk hx
    obtain ⟨k, rfl⟩ : ∃ q, k = q + 1 := ⟨k - 1, by omega⟩
    have hil : i < l.length := by omega
    have h24 := h.le
    have hn := h.node i _ (List.getElem?_eq_getElem hil)
    have hl := node_len hn
    obtain ⟨kd, _, _, _, h4⟩ := nodeW_iff.mp hn
    have ih' := ih k (i + 1) (x ++ encN l[i]) (by omega) (by omega) (by omega) (by rw [List.length_append, encN_len]; omega)
    rw [fullerref12_Write.l0, if_pos (by omega), if_pos (by omega), if_pos (by omega), rdN hil]
    rw [show l[i].f0 % 256 = l[i].f0 by omega, rlg_f _ _ 1 (Or.inl rfl) (by omega) (fun a ha => may1 (by have := h4 a ha; omega)) (by simp; omega) k (by omega)]
    simp only [Option.bind_some]
    rw [rlg_f _ _ 8 (Or.inr rfl) (by omega) (fun a _ => may8 a) (by simp [all1_len]; omega) k (by omega)]
    simp only [Option.bind_some]
    have e : wrap64 ((i : Int) + 1) = ((i + 1 : Nat) : Int) := by unfold wrap64; omega
    have e2 : x ++ [l[i].f0] ++ ((l[i].f1.length : Int) :: pkAll 1 l[i].f1) ++ ((l[i].f2.length : Int) :: pkAll 8 l[i].f2) = x ++ encN l[i] := by
      simp only [encN, List.append_assoc, List.cons_append, List.nil_append]
    rw [e, e2, ih', List.drop_eq_getElem_cons hil, encNs_cons, List.append_assoc]
theorem rwwrite_f (l : List S36) (k : Nat) (hk : 4000 ≤ k) : fullerref12_Write.f k l = some (if gchk l = true then (encG l, 0) else ([], 100)) := by
  unfold fullerref12_Write.f
  rw [rgchk_f l k (by omega)]
  simp only [Option.bind_some]
  by_cases h : gchk l = true
  · rw [if_pos h, if_pos h]
    have hg := gchk_iff.mp h
    have h24 := hg.le
    have := rwwrite_l0 l hg l.length k 0 [(l.length : Int) % 256] (by omega) (by omega) (by omega) (by simp)
    rw [show ((0 : Nat) : Int) = 0 from rfl] at this
    rw [this, show (l.length : Int) % 256 = l.length by omega]
    rfl
  · rw [if_neg h, if_neg h]
/-- What is told of the nodes that are read. -/
def rrEnd (b : List Int) (acc : List S36) (o : Option (List S36 × List Int)) : List S36 × Int := match o with
  | none => ([], 120)
  | some y => if gchk (acc ++ y.1) = true ∧ (strOfNums (encG (acc ++ y.1))).toList = (strOfNums b).toList then (acc ++ y.1, 0) else ([], 120)
theorem rr_l0 (b : List Int) (m : Nat) (hm : m ≤ 255) (d : Nat) : ∀ (k i : Nat) (r : List Int) (acc : List S36), m - i = d → i ≤ m → 2 * d + 5000 ≤ k → octs r → r.length ≤ 1000000000000 → acc.length = i →
    fullerref12_Read.l0 k b (m : Int) r 0 acc (i : Int) = some (rrEnd b acc (rdNodes d r)) := by
  have fin : ∀ (k : Nat) (r : List Int) (acc : List S36) (z : Int), 4500 ≤ k → fullerref12_Read.j1 k b (m : Int) r 0 acc z false = some (rrEnd b acc (some ([], r))) := by
    intro k r acc z hk
    obtain ⟨k, rfl⟩ : ∃ q, k = q + 1 := ⟨k - 1, by omega⟩
    rw [fullerref12_Read.j1, if_neg (by simp), rwwrite_f acc k (by omega)]
    simp only [Option.bind_some, if_true, rrEnd, List.append_nil]
    by_cases hg : gchk acc = true
    · simp only [hg, if_true, true_and]
      split <;> rfl
    · simp [hg]
  induction d with
  | zero =>
    intro k i r acc hd hi hk ho hr hacc
    obtain ⟨k, rfl⟩ : ∃ q, k = q + 1 := ⟨k - 1, by omega⟩
    rw [fullerref12_Read.l0, if_neg (by omega), fin k r acc _ (by omega)]
    rfl
  | succ d ih =>
    intro k i r acc hd hi hk ho hr hacc
    obtain ⟨k, rfl⟩ : ∃ q, k = q + 2 := ⟨k - 2, by omega⟩
    have l1 := take_len r 1
    have o1 := octs_take1 ho
    have l2 := tlist_len (pkTake r 1).2.1
    have o2 := octs_list1 o1
    rw [fullerref12_Read.l0, if_pos (by omega), show ((0 : Int) == 0) = true from rfl, fullerref12_Read.j1, if_pos rfl, rtake_f r 1 ho hr k (by omega)]
    simp only [Option.bind_some]
    rw [rtg_f _ 1 (Or.inl rfl) o1 (by omega) k (by omega)]
    simp only [Option.bind_some]
    rw [rtg_f _ 8 (Or.inr rfl) o2 (by omega) k (by omega)]
    simp only [Option.bind_some]
    rw [rdNodes]
    cases hn : rdNode r with
    | none =>
      unfold rdNode at hn
      by_cases h0 : (pkTake r 1).2.2 = 0
      · rw [if_pos h0] at hn ⊢
        by_cases h1 : (pkTakeList (pkTake r 1).2.1 1).2.2 = 0
        · rw [if_pos h1] at hn ⊢
          by_cases h2 : (pkTakeList (pkTakeList (pkTake r 1).2.1 1).2.1 8).2.2 = 0
          · rw [if_pos h2] at hn; cases hn
          · rw [if_neg h2]; rfl
        · rw [if_neg h1]; rfl
      · rw [if_neg h0]; rfl
    | some x =>
      obtain ⟨n, r1⟩ := x
      obtain ⟨a1, a2⟩ := rdNode_len ho hn
      have ih' := ih k (i + 1) r1 (acc ++ [n]) (by omega) (by omega) (by omega) a2 (by omega) (by simp [hacc])
      unfold rdNode at hn
      by_cases h0 : (pkTake r 1).2.2 = 0
      · rw [if_pos h0] at hn ⊢
        by_cases h1 : (pkTakeList (pkTake r 1).2.1 1).2.2 = 0
        · rw [if_pos h1] at hn ⊢
          by_cases h2 : (pkTakeList (pkTakeList (pkTake r 1).2.1 1).2.1 8).2.2 = 0
          · rw [if_pos h2] at hn ⊢
            simp only [Option.some.injEq, Prod.mk.injEq] at hn
            obtain ⟨rfl, rfl⟩ := hn
            rw [if_pos (by omega)]
            have e : wrap64 ((i : Int) + 1) = ((i + 1 : Nat) : Int) := by unfold wrap64; omega
            rw [e, ih']
            simp only [Option.bind_some]
            cases rdNodes d (pkTakeList (pkTakeList (pkTake r 1).2.1 1).2.1 8).2.1 with
            | none => rfl
            | some y => simp [rrEnd, List.append_assoc]
          · rw [if_neg h2] at hn; cases hn
        · rw [if_neg h1] at hn; cases hn
      · rw [if_neg h0] at hn; cases hn
theorem str_inj {a b : List Int} (ha : octs a) (hb : octs b) (h : (strOfNums a).toList = (strOfNums b).toList) : a = b := by
  rw [str_list, str_list] at h
  have key : ∀ l : List Int, octs l → (l.map fun n => UInt8.ofNat n.toNat).map (fun u => (u.toNat : Int)) = l := by
    intro l hl
    rw [List.map_map]
    conv => rhs; rw [← List.map_id l]
    refine List.map_congr_left (fun n hn => ?_)
    have := hl n hn
    simp only [Function.comp, id]
    rw [UInt8.toNat_ofNat_of_lt' (by simp [UInt8.size]; omega)]
    omega
  rw [← key a ha, ← key b hb, h]
theorem rread_f {b : List Int} (ho : octs b) (hl : b.length ≤ 1000000000000) (k : Nat) (hk : 6000 ≤ k) : fullerref12_Read.f k b = some (rdGraph b) := by
  unfold fullerref12_Read.f rdGraph
  rw [rtake_f b 1 ho hl k (by omega)]
  simp only [Option.bind_some]
  rcases take1 ho with ⟨e1, e2, e3, e4⟩ | ⟨hb, e2⟩
  · rw [if_pos e1, e1]
    have o1 := octs_take1 ho
    have l1 := take_len b 1
    have h := rr_l0 b (pkTake b 1).1.toNat (by omega) (pkTake b 1).1.toNat k 0 (pkTake b 1).2.1 [] (by omega) (by omega) (by omega) o1 (by omega) rfl
    rw [Int.toNat_of_nonneg e3, show ((0 : Nat) : Int) = 0 from rfl] at h
    rw [h]
    cases hp : rdNodes (pkTake b 1).1.toNat (pkTake b 1).2.1 with
    | none => rfl
    | some y =>
      obtain ⟨l, r⟩ := y
      obtain ⟨a1, a2, a3, a4⟩ := rdNodes_inv _ _ _ _ o1 hp
      unfold rrEnd wrEnd
      simp only [List.nil_append]
      by_cases hg : gchk l = true
      · have hG := gchk_iff.mp hg
        have hw : wideG l := fun n hn => (a3 n hn).2.2.2
        have hb' : b = encG l ++ r := by
          rw [e2, a1]
          show _ = (l.length : Int) :: (encNs l ++ r)
          rw [a4, Int.toNat_of_nonneg e3]
        by_cases hr : r = []
        · rw [if_pos ⟨hg, by rw [hb', hr, List.append_nil]⟩, if_pos ⟨hr, hg⟩]
        · have hs : ¬ (gchk l = true ∧ (strOfNums (encG l)).toList = (strOfNums b).toList) := by
            rintro ⟨_, hs⟩
            have := str_inj (octs_encG hG hw) ho hs
            rw [hb'] at this
            exact hr (by simpa using this)
          rw [if_neg hs, if_neg (fun h => hr h.1)]
      · rw [if_neg (fun h => hg h.1), if_neg (fun h => hg h.2)]
  · rw [if_neg (by rw [e2]; simp)]
    have e3 : (pkTake b 1).2.2 = 40 := by rw [e2]
    have e4 : (pkTake b 1).1 = 0 := by rw [e2]
    rw [e3, e4]
    obtain ⟨k, rfl⟩ : ∃ q, k = q + 2 := ⟨k - 2, by omega⟩
    rw [fullerref12_Read.l0, if_neg (by omega), fullerref12_Read.j1, if_neg (by simp), rwwrite_f [] k (by omega)]
    simp
end Go.Proofs.Ytchmfdaebohplaa.Plain
